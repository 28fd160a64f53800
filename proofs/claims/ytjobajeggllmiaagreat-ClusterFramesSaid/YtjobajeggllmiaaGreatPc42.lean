import Derived.Test.YtjobajeggllmiaaGreatPc0
import Derived.Test.YtjobajeggllmiaaGreatPc40
import Derived.Test.YtjobajeggllmiaaGreatPc41
set_option linter.all false
set_option maxHeartbeats 100000000
set_option maxRecDepth 100000
namespace Go.Proofs.YtjobajeggllmiaaGreat
open Ms Rg _root_.Go.Proofs.Tryz
namespace Nd
open Go.RowKit Mem Rws Flat
def Tn{w:World}{B:Nat}{o:Option Cw}{e:Ending}(h:TH w B o e):∃v,e=.returned (.tuple #[v,.bool o.isSome])/\∀m,o=some m->∃a c,v=.slice a m.zs.length c/\m.zs.length<=c/\Rd w B 1 a m.zs.length (Ms.AQ m.zs):=by
 cases o with
 |none=>exact⟨_,h,fun m h=>by cases h⟩
 |some m=>obtain⟨a,c,e,W,Z,Y⟩:=h;exact⟨_,e,fun X h=>by cases h;exact⟨a,c,rfl,Z,Y⟩⟩
def Ux(f:Nat->Value)(hf:∀i,i<73->C9 (Ar i) (f i))(k:Nat)(hk:k<4)(uh:f 0=.int .i64 (k:Int))(fr:Int)(tO:f 1=.int .i64 fr)(A:Option Addr)(c:Nat)(Z:List Bool)(AI:Option Addr)(ci:Nat)(q:List Cw)(B:Nat)(w:World)(b:B<=w.heap.size)(hA:A=none->c=0)(uy:Z.length<=c)(hl:Z.length<=140737488351232)(hr:Rd w B 1 A Z.length (Au Z))(uw:q.length<=140737488355328)(hm:Cc w B AI q):
  Calls prog 30 #[.agg (row 74 (Ab f (.slice A Z.length c))),.slice AI q.length ci] w fun e w'=>Uh w w' (Dy (fun i:Nat=>Be (k:Int) fr 5 24 (i:Int) q) f) Z (row 14 (EQ (Dy (fun i:Nat=>Be (k:Int) fr 5 24 (i:Int) q) f))) e:=by
 have qW:∀(A:Option Addr) (n c:Nat),(row 74 (Ab f (.slice A n c))).all (·.oneCell')=true:=fun A n c=>Cv hf;have HO:=zz qW;have HF:=zz hf;have su:=zz uh;have sU:=zz tO;clear hf qW uh tO
 go_in
 go_upto_region 1 with fail
 have D3:Hid (Ae (((w.alloc (.cells (row 74 (Ab f (.slice A Z.length c))) 37)).alloc (.cells zeroCells37 37)).alloc (.cells #[.int .i64 0,.int .i64 0,.int .i64 0,.int .i64 0,.int .i64 0,.int .i64 0,.int .i64 0,.int .i64 0,.int .i64 0,.bool false,.bool false,.bool false,.bool false,.bool false] 70)) w.heap.size 37 (row 74 (Ab f (.slice A Z.length c)))):=zz (((Ae.new rfl).alloc _).alloc _);have D6:Hid (Ae (((w.alloc (.cells (row 74 (Ab f (.slice A Z.length c))) 37)).alloc (.cells zeroCells37 37)).alloc (.cells #[.int .i64 0,.int .i64 0,.int .i64 0,.int .i64 0,.int .i64 0,.int .i64 0,.int .i64 0,.int .i64 0,.int .i64 0,.bool false,.bool false,.bool false,.bool false,.bool false] 70)) (w.heap.size+1) 37 zeroCells37):=zz ((Ae.new Bq).alloc _);have D7:Hid (Ae (((w.alloc (.cells (row 74 (Ab f (.slice A Z.length c))) 37)).alloc (.cells zeroCells37 37)).alloc (.cells #[.int .i64 0,.int .i64 0,.int .i64 0,.int .i64 0,.int .i64 0,.int .i64 0,.int .i64 0,.int .i64 0,.int .i64 0,.bool false,.bool false,.bool false,.bool false,.bool false] 70)) (w.heap.size+1+1) 70 #[.int .i64 0,.int .i64 0,.int .i64 0,.int .i64 0,.int .i64 0,.int .i64 0,.int .i64 0,.int .i64 0,.int .i64 0,.bool false,.bool false,.bool false,.bool false,.bool false]):=zz (Ae.new Bq);have Y:=zz (((((Below.refl w.heap.size w).alloc Nr (.cells (row 74 (Ab f (.slice A Z.length c))) 37)).alloc Bq (.cells zeroCells37 37)).alloc Ec (.cells #[.int .i64 0,.int .i64 0,.int .i64 0,.int .i64 0,.int .i64 0,.int .i64 0,.int .i64 0,.int .i64 0,.int .i64 0,.bool false,.bool false,.bool false,.bool false,.bool false] 70)))
 have HR:=zz hr;have uq:=zz hm;clear hr hm
 generalize(((w.alloc (.cells (row 74 (Ab f (.slice A Z.length c))) 37)).alloc (.cells zeroCells37 37)).alloc (.cells #[.int .i64 0,.int .i64 0,.int .i64 0,.int .i64 0,.int .i64 0,.int .i64 0,.int .i64 0,.int .i64 0,.int .i64 0,.bool false,.bool false,.bool false,.bool false,.bool false] 70))=W at*
 have qX:∀A (n:Nat) c,(prog.info? 37).map (·.size)=some (row 74 (Ab f (.slice A n c))).size:=fun A n c=>by rw[Ag];kernel_rfl
 have HI:=zz qX;clear qX;have vC:w.heap.size+1+1<W.heap.size:=D7.o.lt;have ug:=HI.o A Z.length c;obtain⟨R1,rO⟩:=AJ (row 74 (Ab f (.slice A Z.length c)));have rC:=zz rO;rw[rO]at D3 ug;clear rO
 go_wp2_with(refine Ad rfl 37 _ rfl w.heap.size rfl D3.o _ underlying37 rfl ug ?_)
 rw[←rC.o];refine(Ey f HF.o A c Z B _ (Nat.le_trans b Y.o.size) hA uy hl (HR.o.below (Y.o.mono b))).mono ?_;rintro e w1 ⟨V,U,rfl,qU,E⟩;rw[rC.o];have uf:=zz qU;have tL:=CU Y E;have u7:=E.size;have qQ:=HI.o V Z.length U;have rP:=HO.o V Z.length U
 have rY:(row 74 (Ab f (.slice V Z.length U)))[0]?=some (.int .i64 (k:Int)):=by rw[Ah Aa];exact congrArg some su.o
 have uj:(row 74 (Ab f (.slice V Z.length U)))[1]?=some (.int .i64 fr):=by rw[Ah Aa];exact congrArg some sU.o
 have r9:R1.size=(row 74 (Ab f (.slice V Z.length U))).size:=by rw[←rC.o,Ag,Ag]
 obtain⟨R2,rQ⟩:=AJ (row 74 (Ab f (.slice V Z.length U)));have uR:=zz rQ;rw[rQ]at qQ rP rY uj r9 ⊢;clear rQ;have E3:=AU D3 E;have F3:=zz (E3.o.setRow R2);have F6:=zz ((D6.o.below E D6.o.lt).setRow_other (g':=w.heap.size) Aa R2);have F7:=zz ((D7.o.below E D7.o.lt).setRow_other (g':=w.heap.size) Aa R2);have tY:=zz (below_setRow tL.o Nr R2)
 have tK:=zz (Ay uf.o (show w.heap.size<W.heap.size by omega) R2)
 have cT:=fun w=>JG R2 (k:Int) rY w;have vo:¬((k:Int)<0):=Aa
 have um:Dt (k:Int)=false:=by unfold Dt;simp;omega
 rw[um]at cT;clear E qU um
 go_upto_region 4 with(first
  |(refine wpList_store_row rfl 37 _ _ rfl w.heap.size R2 rfl rfl 37 _ E3.o qQ r9 rP ?_)
  |(refine Ad rfl 37 _ rfl w.heap.size rfl F3.o _ underlying37 rfl qQ ?_)
  |(go_at_call 51;refine(cT _).mono ?_;rintro e w3 ⟨rfl,L⟩;have G3:=AU F3 L;have G6:=AU F6 L;have T:=AU F7 L;have sW:=CU tY L;have tV:=GJ tK L;have vg:=Nat.le_trans u7 (Nat.le_trans (show w1.heap.size<=(w1.setRow w.heap.size R2).heap.size from(below_setRow (Below.refl 0 w1) (Nat.zero_le _) R2).size) L.size);clear L))
 clear Y tL tY uf tK D3 D6 D7 E3 F3 F6 F7 cT r9;rw[←uR.o]at G3;clear rP qQ rY uj HR;obtain⟨st,ru⟩:=HF.o 72 Aa;obtain⟨vv,sQ⟩:=HF.o 71 Aa;obtain⟨dd,rA⟩:=HF.o 70 Aa
 have rV:=zz (show Jd f=(st&&(vv !=dd))by unfold Jd;rw[ru,sQ,rA];rfl)
 have uO: w3.cell? ⟨w.heap.size,72,none⟩=some (.bool st):=by rw[G3.o.cell,Ah Aa];exact congrArg some ru
 have uJ: w3.cell? ⟨w.heap.size,71,none⟩=some (.int .i64 vv):=by rw[G3.o.cell,Ah Aa];exact congrArg some sQ
 have u6: w3.cell? ⟨w.heap.size,70,none⟩=some (.int .i64 dd):=by rw[G3.o.cell,Ah Aa];exact congrArg some rA
 clear ru sQ rA;obtain⟨o,ho⟩:=AJ (fun i:Nat=>Be (k:Int) fr 5 24 (i:Int) q);have uL:=zz ho
 have tX:=zz (fun(i:Nat) m (h:o i=some m)=>show m.zs.length=24 from IE (by rw[←ho]at h;exact h))
 have uW:=zz (fun(i:Nat)=>show Be (k:Int) fr 5 24 (i:Int) q=o i from congrFun ho i)
 clear ho
 have uG:=zz (fun(h:Jd f=false)=>show Dy o f=f from Aj (by rw[h];exact Bool.false_ne_true))
 have sZ:=zz (fun(h:Jd f=true)=>show Dy o f=Gc o f from Ao h)
 go_cut[6] (fun l wx=>l=.bool (Jd f)/\w3=wx)
 case first=>
  cases st with
  |false=>
   go_wp2_with fail
   go_meet
   exact⟨by rw[rV.o];rfl,rfl⟩
  |true=>
   cases hne:(vv !=dd)with
   |false=>
    go_wp2_with fail
    go_meet
    exact⟨by rw[rV.o,hne];rfl,rfl⟩
   |true=>
    go_wp2_with fail
    go_meet
    exact⟨by rw[rV.o,hne];rfl,rfl⟩
 obtain⟨rfl,rfl⟩:=hcut
 have G3:=zz (show Ae w3 w.heap.size 37 (row 74 (Ab (if Jd f=true then f else Dy o f) (.slice V Z.length U)))from(by
  by_cases h:Jd f=true
  . rw[Ao h];exact G3.o
  rw[Aj h,uG.o (by simpa using h)];exact G3.o))
 have R:=tV;have Y:=sW;clear tV sW;go_wp2_with fail;clear u6 uJ uO
 go_loopw[6,7] (fun lv iv wr=>∃(i:Nat) (lb:Bool),i<=4/\iv=.int .i64 (i:Int)/\lv=.bool lb/\(lb=true->Jd f=true/\Fe o i (i+1))/\Ae wr w.heap.size 37 (row 74 (Ab (if lb=true then f else Dy o f) (.slice V Z.length U)))/\Ae wr (w.heap.size+1) 37 zeroCells37/\Ae wr (w.heap.size+1+1) 70 #[.int .i64 0,.int .i64 0,.int .i64 0,.int .i64 0,.int .i64 0,.int .i64 0,.int .i64 0,.int .i64 0,.int .i64 0,.bool false,.bool false,.bool false,.bool false,.bool false]/\wr.ownsRow W.heap.size 4 1 (.slice V Z.length U) Z.length (Au Z)/\Below w.heap.size w wr) (fun _ iv _=>4-(intOf iv).toNat)
 case atStart=>exact⟨0,Jd f,Aa,rfl,rfl,fun h=>⟨h,Fe.start o⟩,G3.o,G6.o,T.o,R.o,Y.o⟩
 clear G3 G6 T R Y;obtain⟨i,lb,hi,rfl,rfl,r,g3,g6,g7,hw,hb⟩:=hrel;have G3:=zz g3;have G6:=zz g6;have T:=zz g7;have R:=zz hw;have Y:=zz hb;have O:=zz r;clear g3 g6 g7 hw hb r
 by_cases ve:i<4
 .have vw:(i:Int)<4:=Aa;have vz:(0:Int)<=(i:Int):=Aa;go_wp2_with fail
  generalize wr=wq at*
  go_loopw[6,8] (fun lv kv wr=>∃(j:Nat) (lb:Bool),i<j/\j<=4/\kv=.int .i64 (j:Int)/\lv=.bool lb/\(lb=true->Jd f=true/\Fe o i j)/\Ae wr w.heap.size 37 (row 74 (Ab (if lb=true then f else Dy o f) (.slice V Z.length U)))/\Ae wr (w.heap.size+1) 37 zeroCells37/\Ae wr (w.heap.size+1+1) 70 #[.int .i64 0,.int .i64 0,.int .i64 0,.int .i64 0,.int .i64 0,.int .i64 0,.int .i64 0,.int .i64 0,.int .i64 0,.bool false,.bool false,.bool false,.bool false,.bool false]/\wr.ownsRow W.heap.size 4 1 (.slice V Z.length U) Z.length (Au Z)/\Below w.heap.size w wr) (fun _ kv _=>4-(intOf kv).toNat)
  case atStart=>exact⟨i+1,lb,Aa,Aa,BG,rfl,O.o,G3.o,G6.o,T.o,R.o,Y.o⟩
  clear G3 G6 T R Y O;obtain⟨j,rR,uD,hj,rfl,rfl,r,g3,g6,g7,hw,hb⟩:=hrel;have G3:=zz g3;have G6:=zz g6;have T:=zz g7;have R:=zz hw;have Y:=zz hb;have O:=zz r;clear g3 g6 g7 hw hb r
  by_cases tF:j<4
  .have vk:(j:Int)<4:=Aa;have vB:(0:Int)<=(j:Int):=Aa
   obtain⟨g,hg⟩:=AJ (if rR=true then f else Dy o f)
   have J:=zz hg
   have tZ:g 0=.int .i64 (k:Int):=by rw[←hg];split;exact su.o;exact(Km o f 0 Aa).trans su.o
   have tC:g 1=.int .i64 fr:=by rw[←hg];split;exact sU.o;exact(Km o f 1 Aa).trans sU.o
   rw[hg]at G3;clear hg;have ig:(prog.info? 37).map (·.size)=some (row 74 (Ab g (.slice V Z.length U))).size:=Eg
   have CF:=zz (fun(i:Nat) v (hv:B<=v.heap.size) (hm:Cc v B AI q)=>show Calls prog 52 #[.agg (row 74 (Ab g (.slice V Z.length U))),.slice AI q.length ci,.int .i64 (i:Int),.int .i64 5,.int .i64 24] v fun e w'=>TH w' B (o i) e/\Below v.heap.size v w' from by
    have c:=L9 (row 74 (Ab g (.slice V Z.length U))) (k:Int) fr (by rw[Ah Aa];exact congrArg some tZ) (by rw[Ah Aa];exact congrArg some tC) AI ci q (i:Int) 5 24 B v hv uw hm;rw[uW.o i]at c
    exact c)
   clear tZ tC
   go_wp2_with(refine Ad rfl 37 _ rfl w.heap.size rfl G3.o _ underlying37 rfl ig ?_)
   refine(CF.o i _ (Nat.le_trans b Y.o.size) (uq.o.below (Y.o.mono b))).mono ?_;rintro e wa ⟨uz,hb⟩;obtain⟨va,rfl,uH⟩:=Tn uz;have G3:=AU G3 hb;have G6:=AU G6 hb;have T:=AU T hb;have R:=GJ R hb;have sS:=zz uH;have Y:=CU Y hb;clear hb
   go_wp2_with(refine Ad rfl 37 _ rfl w.heap.size rfl G3.o _ underlying37 rfl ig ?_)
   refine(CF.o j _ (Nat.le_trans b Y.o.size) (uq.o.below (Y.o.mono b))).mono ?_;rintro e wb ⟨uP,hb⟩;obtain⟨vb,rfl,uV⟩:=Tn uP;have G3:=AU G3 hb;have G6:=AU G6 hb;have T:=AU T hb;have R:=GJ R hb;have uI:=zz uV;have sS:=zz (fun m h=>by obtain⟨a,c,h1,h2,h3⟩:=sS.o m h;exact(⟨a,c,h1,h2,h3.below (hb.mono (Nat.le_trans b Y.o.size))⟩:∃a c,va=.slice a m.zs.length c/\m.zs.length<=c/\Rd wb B 1 a m.zs.length (Ms.AQ m.zs)));have Y:=CU Y hb;clear hb
   cases rR with
   |false=>
    rw[←J.o]at G3;clear CF J ig;go_wp2_with fail;exact⟨⟨j+1,false,Aa,Aa,BG,rfl,fun h=>(by cases h),G3.o,G6.o,T.o,R.o,Y.o⟩,Ck⟩
   |true=>
    have N:=zz (O.o rfl)
    have sM:=zz (show f=g from J.o)
    cases hoi:o i with
    |none=>
     have rJ:=zz (N.o.2.step (QF (k:=j) hoi));rw[←J.o]at G3;clear CF J sM ig;simp only[Option.isSome_none];go_wp2_with fail;exact⟨⟨j+1,true,Aa,Aa,BG,rfl,fun _=>⟨N.o.1,rJ.o⟩,G3.o,G6.o,T.o,R.o,Y.o⟩,Ck⟩
    |some Am=>
     cases hok:o j with
     |none=>
      have rJ:=zz (N.o.2.step (Qp (i:=i) hok));rw[←J.o]at G3;clear CF J sM ig;simp only[Option.isSome_none,Option.isSome_some];go_wp2_with fail;exact⟨⟨j+1,true,Aa,Aa,BG,rfl,fun _=>⟨N.o.1,rJ.o⟩,G3.o,G6.o,T.o,R.o,Y.o⟩,Ck⟩
     |some Bm=>
      have M:=tX.o i Am hoi;have sJ:=tX.o j Bm hok;obtain⟨aa,ca,rfl,sD,sI⟩:=sS.o Am hoi;obtain⟨ab,cb,rfl,tH,rT⟩:=uI.o Bm hok;rw[M]at sD sI ⊢;rw[sJ]at tH rT ⊢;have qR:=zz sI;have ul:=zz rT;simp only[Option.isSome_some]
      have CS:=zz (fun v (h1:Rd v B 1 aa 24 (Ms.AQ Am.zs)) (h2:Rd v B 1 ab 24 (Ms.AQ Bm.zs))=>show Calls prog 60 #[.slice aa 24 ca,.slice ab 24 cb] v fun e w'=>e=.returned (.bool (decide (Am.zs=Bm.zs)))/\Below v.heap.size v w' from by
       have c:=Wo aa ab ca cb Am.zs Bm.zs (sJ.trans M.symm) B v Aa (by rw[M];exact h1) (by rw[M];exact h2);rw[M]at c
       exact c)
      have uo:=zz M;have uN:=zz sD;have rH:=zz (fun h:Am.zs=Bm.zs=>N.o.2.found uD tF (Ta hoi hok h));have sG:=zz (fun h:¬Am.zs=Bm.zs=>N.o.2.step (Qf hoi hok h));have uZ:=sM.o;subst uZ;clear hoi hok M sJ sD tH sI rT CF;go_wp2_with fail;refine(CS.o _ qR.o ul.o).mono ?_;rintro e wc ⟨rfl,hb⟩;have G3:=AU G3 hb;have G6:=AU G6 hb;have T:=AU T hb;have R:=GJ R hb;have qR:=zz (qR.o.below (hb.mono (Nat.le_trans b Y.o.size)));have Y:=CU Y hb;clear hb CS ul
      by_cases D:Am.zs=Bm.zs
      .have rE:=zz (rH.o D);have sN:decide (Am.zs=Bm.zs)=true:=decide_eq_true D;clear rH sG D;rw[sN]
       have tT:=zz (show Dy o f=MC Am.zs f by rw[sZ.o N.o.1];unfold Gc;rw[rE.o])
       go_wp2_with(refine Ad rfl 37 _ rfl w.heap.size rfl G3.o _ underlying37 rfl ig ?_)
       refine(TR f HF.o Am.zs uo.o aa ca uN.o (.slice V Z.length U) rfl wc (by rw[uo.o];exact qR.o.more (Nat.le_trans b Y.o.size))).mono ?_;rintro e wd ⟨g2,rfl,qV,qZ,hb⟩;have tQ:=zz qV;have rq:=zz qZ;have G3:=AU G3 hb;have G6:=AU G6 hb;have T:=AU T hb;have R:=GJ R hb;have Y:=CU Y hb;clear hb qV qZ;have iM:(prog.info? 37).map (·.size)=some (row 74 (Ab g2 (.slice V Z.length U))).size:=Eg;have zM:(zeroCells37).size=(row 74 (Ab g2 (.slice V Z.length U))).size:=Eg;have oM:(row 74 (Ab g2 (.slice V Z.length U))).all (·.oneCell')=true:=Pp tQ.o rfl
       have zG:(row 74 (Ab f (.slice V Z.length U))).size=(row 74 (Ab g2 (.slice V Z.length U))).size:=by rw[Ag,Ag]
       obtain⟨u,tJ⟩:=AJ (row 74 (Ab g2 (.slice V Z.length U)));rw[tJ]at iM zM oM rq zG ⊢;clear tJ;have rU:=zz (Ae.fresh wd 37 zeroCells37)
       go_upto_region 16 with(refine wpList_store_row rfl 37 _ _ rfl wd.heap.size u rfl rfl 37 _ rU.o iM zM oM ?_)
       have HM:=zz (rU.o.setRow u);have G:Below wd.heap.size wd ((wd.alloc (.cells zeroCells37 37)).setRow wd.heap.size u):=below_setRow (DC) Nr u;have G3:=AU G3 G;have uF:=T.o.lt;have G6:=AU G6 G;have T:=AU T G;have R:=GJ R G;have Y:=CU Y G;clear G rU
       generalize((wd.alloc (.cells zeroCells37 37)).setRow wd.heap.size u)=we at*
       obtain⟨gm,qY⟩:=AJ (wd.heap.size);rw[qY]at HM uF ⊢;clear qY
       cases hu:CQ Am.zs with
       |false=>
        have sP:=zz (show Dy o f=f by rw[tT.o];unfold MC;rw[hu];rfl)
        clear hu;go_wp2_with fail;exact⟨⟨j+1,false,Aa,Aa,BG,rfl,fun h=>(by cases h),by rw[Aj Bool.false_ne_true,sP.o];exact G3.o,G6.o,T.o,R.o,Y.o⟩,Ck⟩
       |true=>
        have sP:=zz (show Dy o f=EX Am.zs f by rw[tT.o];unfold MC;rw[hu];rfl)
        have uY:=zz (rq.o hu);clear hu
        go_wp2_with(first|(refine Ad rfl 37 _ rfl gm rfl HM.o _ underlying37 rfl iM ?_)|(refine wpList_store_row rfl 37 _ _ rfl w.heap.size u rfl rfl 37 _ G3.o iM zG oM ?_))
        exact⟨⟨j+1,false,Aa,Aa,BG,rfl,fun h=>(by cases h),by rw[Aj Bool.false_ne_true,sP.o,←uY.o];exact G3.o.setRow u,G6.o.setRow_other Aa u,T.o.setRow_other Aa u,Ay R.o (show w.heap.size<W.heap.size by omega) u,below_setRow Y.o Nr u⟩,Ck⟩
      have rE:=zz (sG.o D);have sN:decide (Am.zs=Bm.zs)=false:=decide_eq_false D;clear rH sG D;rw[sN];go_wp2_with fail;exact⟨⟨j+1,true,Aa,Aa,BG,rfl,fun _=>⟨N.o.1,rE.o⟩,by rw[Ao rfl];exact G3.o,G6.o,T.o,R.o,Y.o⟩,Ck⟩
  obtain rfl:j=4:=Aa;clear tF;go_wp2_with fail;exact⟨⟨i+1,rR,Aa,BG,rfl,fun h=>⟨(O.o h).1,(O.o h).2.next⟩,G3.o,G6.o,T.o,R.o,Y.o⟩,Ck⟩
 obtain rfl:i=4:=Aa;clear ve
 have uS:=zz (show(if lb=true then f else Dy o f)=Dy o f from by
  cases lb with
  |false=>rfl
  |true=>exact((sZ.o (O.o rfl).1).trans (by unfold Gc;rw[(O.o rfl).2.all Nr];rfl)).symm)
 rw[uS.o]at G3;obtain⟨F,hF⟩:=AJ (Dy o f);have uQ:=zz hF
 have tu:=zz (show ∀i,i<73->C9 (Ar i) (F i)from by rw[←hF];exact Nv HF.o o)
 rw[hF]at G3;clear hF;obtain⟨a0,b0,u0,u1,u2,x0,p,x2,dg,d,t,C,z,s,q0,q1,rZ,sH,rM,q6,sK,rW,sO,rX,sw,rG,rF,rD⟩:=Oy tu.o
 have I:=zz (fun(i:Nat) (hi:i<73)=>show(row 74 (Ab F (.slice V Z.length U)))[i]?=some (F i)from by rw[Ah Aa];unfold Ab;rw[Aj Aa])
 have HU:=zz (show(row 3 fun j=>Ab F (.slice V Z.length U) (67+j))=#[.int .i64 u0,.int .i64 u1,.int .i64 u2]from by rw[←rZ,←sH,←rM];rfl)
 have uE:=zz (show(row 4 fun j=>Ab F (.slice V Z.length U) (27+j))=#[.bool t,.bool C,.bool z,.bool s]from by rw[←sw,←rG,←rF,←rD];rfl)
 have uT:=zz (show row 14 (EQ F)=#[.int .i64 a0,.int .i64 b0,.int .i64 u0,.int .i64 u1,.int .i64 u2,.int .i64 x0,.int .i64 p,.int .i64 x2,.int .i64 dg,.bool d,.bool t,.bool C,.bool z,.bool s]from by rw[JO,q0,q1,rZ,sH,rM,q6,sK,rW,sO,rX,sw,rG,rF,rD])
 have c0:=(I.o 0 Aa).trans (congrArg some q0);have c1:=(I.o 1 Aa).trans (congrArg some q1);have c6:=(I.o 6 Aa).trans (congrArg some q6);have uK:=(I.o 13 Aa).trans (congrArg some sK);have uU:=(I.o 20 Aa).trans (congrArg some rW);have uM:=(I.o 70 Aa).trans (congrArg some sO);have uX:=(I.o 72 Aa).trans (congrArg some rX);clear q0 q1 rZ sH rM q6 sK rW sO rX sw rG rF rD;have o5:=Cv tu.o (A:=V) (n:=Z.length) (c:=U);have i5:(prog.info? 37).map (·.size)=some (row 74 (Ab F (.slice V Z.length U))).size:=Eg;have z5:(zeroCells37).size=(row 74 (Ab F (.slice V Z.length U))).size:=Eg;have iP:(prog.info? 70).map (·.size)=some (#[.int .i64 a0,.int .i64 b0,.int .i64 u0,.int .i64 u1,.int .i64 u2,.int .i64 x0,.int .i64 p,.int .i64 x2,.int .i64 dg,.bool d,.bool t,.bool C,.bool z,.bool s]:Array Value).size:=Ap;have oP:(#[.int .i64 a0,.int .i64 b0,.int .i64 u0,.int .i64 u1,.int .i64 u2,.int .i64 x0,.int .i64 p,.int .i64 x2,.int .i64 dg,.bool d,.bool t,.bool C,.bool z,.bool s]:Array Value).all (·.oneCell')=true:=GR
 go_upto_region 18 with fail
 have G3:=zz G3.o.drew;have G6:=zz G6.o.drew;have T:=zz T.o.drew;have R:=zz (ownsRow_below R.o ((Below.refl wr.heap.size wr).drew));have Y:=zz Y.o.drew;have H:=G3.o;refine wp_region_noPanic ?_;refine A8 [0,2,4,6,10,14,18,21,24,27] (fun w'=>Ae w' w.heap.size 37 (row 74 (Ab F (.slice V Z.length U)))) Ap ?_
 generalize wr.drew=V0 at*
 refine Ba 0 (.agg (row 74 (Ab F (.slice V Z.length U)))) H (hy:=?_) (h:=?_)
 . (intro w' X;exact Az 37 _ rfl _ rfl X underlying37 rfl i5)
 refine Ac 1 ?_;refine Ba 2 ?_ H (hy:=?_) (h:=?_);rotate_left 1
 . (intro w' X;have y:=(X.cell 0).trans c0;go_simp;(try with_reducible rfl))
 refine Ac 3 ?_;refine Ba 4 ?_ H (hy:=?_) (h:=?_);rotate_left 1
 . (intro w' X;have y:=(X.cell 1).trans c1;go_simp;(try with_reducible rfl))
 refine Ac 5 ?_;refine Ba 6 (.agg #[.int .i64 u0,.int .i64 u1,.int .i64 u2]) H (hy:=?_) (h:=?_)
 . (intro w' X;rw[←HU.o];exact BK 31 _ rfl _ 67 3 rfl _ _ (Dx X 67 3 Aa) underlying31 rfl Ap)
 refine Ac 7 ?_;refine Ac 8 ?_;refine Ac 9 ?_;refine Ba 10 ?_ H (hy:=?_) (h:=?_);rotate_left 1
 . (intro w' X;have y:=(X.cell 6).trans c6;go_simp;(try with_reducible rfl))
 refine Ac 11 ?_;refine Ac 12 ?_;refine Ac 13 ?_;refine Ba 14 ?_ H (hy:=?_) (h:=?_);rotate_left 1
 . (intro w' X;have y:=(X.cell 13).trans uK;go_simp;(try with_reducible rfl))
 refine Ac 15 ?_;refine Ac 16 ?_;refine Ac 17 ?_;refine Ba 18 ?_ H (hy:=?_) (h:=?_);rotate_left 1
 . (intro w' X;have y:=(X.cell 20).trans uU;go_simp;(try with_reducible rfl))
 refine Ac 19 ?_;refine Ac 20 ?_;refine Ba 21 ?_ H (hy:=?_) (h:=?_);rotate_left 1
 . (intro w' X;have y:=(X.cell 70).trans uM;go_simp;(try with_reducible rfl))
 refine Ac 22 ?_;refine Ac 23 ?_;refine Ba 24 ?_ H (hy:=?_) (h:=?_);rotate_left 1
 . (intro w' X;have y:=(X.cell 72).trans uX;go_simp;(try with_reducible rfl))
 refine Ac 25 ?_;refine Ac 26 ?_;refine Ba 27 (.agg #[.bool t,.bool C,.bool z,.bool s]) H (hy:=?_) (h:=?_)
 . (intro w' X;rw[←uE.o];exact BK 27 _ rfl _ 27 4 rfl _ _ (Dx X 27 4 Aa) underlying27 rfl Ap)
 refine Ac 28 ?_;refine Aw 29 ?_;refine Bt ?_;intro K hK;rw[Ao Bb];refine wp_store_row 37 _ _ rfl (w.heap.size+1) (row 74 (Ab F (.slice V Z.length U))) rfl rfl 37 _ G6.o i5 z5 o5 ?_;have G3:=zz (G3.o.setRow_other (g':=w.heap.size+1) Aa (row 74 (Ab F (.slice V Z.length U))));have T:=zz (T.o.setRow_other (g':=w.heap.size+1) Aa (row 74 (Ab F (.slice V Z.length U))));have G6:=zz (G6.o.setRow (row 74 (Ab F (.slice V Z.length U))))
 have Y:=zz (below_setRow Y.o (show w.heap.size<=w.heap.size+1 by omega) (row 74 (Ab F (.slice V Z.length U))))
 have R:=zz (Ay R.o (show w.heap.size+1<W.heap.size by omega) (row 74 (Ab F (.slice V Z.length U))))
 clear H
 generalize(V0.setRow (w.heap.size+1) (row 74 (Ab F (.slice V Z.length U))))=V1 at*
 have H:=G3.o;refine hK.o _ _ H ?_;clear hK K;refine Aw 30 ?_;refine AX ?_ ?_
 . kernel_rfl
 intro K hK;rw[Ao Bb];refine wp_store_row 70 _ _ rfl (w.heap.size+1+1) #[.int .i64 a0,.int .i64 b0,.int .i64 u0,.int .i64 u1,.int .i64 u2,.int .i64 x0,.int .i64 p,.int .i64 x2,.int .i64 dg,.bool d,.bool t,.bool C,.bool z,.bool s] rfl rfl 70 _ T.o iP rfl oP ?_;have G6:=zz (G6.o.setRow_other (g':=w.heap.size+1+1) Aa #[.int .i64 a0,.int .i64 b0,.int .i64 u0,.int .i64 u1,.int .i64 u2,.int .i64 x0,.int .i64 p,.int .i64 x2,.int .i64 dg,.bool d,.bool t,.bool C,.bool z,.bool s]);have T:=zz (T.o.setRow #[.int .i64 a0,.int .i64 b0,.int .i64 u0,.int .i64 u1,.int .i64 u2,.int .i64 x0,.int .i64 p,.int .i64 x2,.int .i64 dg,.bool d,.bool t,.bool C,.bool z,.bool s])
 have Y:=zz (below_setRow Y.o (show w.heap.size<=w.heap.size+1+1 by omega) #[.int .i64 a0,.int .i64 b0,.int .i64 u0,.int .i64 u1,.int .i64 u2,.int .i64 x0,.int .i64 p,.int .i64 x2,.int .i64 dg,.bool d,.bool t,.bool C,.bool z,.bool s])
 have R:=zz (Ay R.o (show w.heap.size+1+1<W.heap.size by omega) #[.int .i64 a0,.int .i64 b0,.int .i64 u0,.int .i64 u1,.int .i64 u2,.int .i64 x0,.int .i64 p,.int .i64 x2,.int .i64 dg,.bool d,.bool t,.bool C,.bool z,.bool s])
 clear H
 generalize(V1.setRow (w.heap.size+1+1) #[.int .i64 a0,.int .i64 b0,.int .i64 u0,.int .i64 u1,.int .i64 u2,.int .i64 x0,.int .i64 p,.int .i64 x2,.int .i64 dg,.bool d,.bool t,.bool C,.bool z,.bool s])=V2 at*
 refine hK.o _ _ ?_;clear hK K;(try simp only[Rg.lp]);refine Bg Ap ?_ _;refine NoPanic.normal ?_;go_wp2_with fail;exact Da rfl rfl rfl G6.o ⟨by rw[underlying37],i5⟩ T.o ⟨by rw[underlying70],iP⟩ rfl ⟨V,U,by rw[uL.o,uQ.o,uT.o],Rd.Bu R.o,Y.o,fun a h=>Nat.le_trans Aa (Db R.o a h),BU R.o⟩
end Nd
namespace Cf
open Go.ChangeShapes Go.WideShapes Go.ChangeAt Go.RowKit Mem Rws Nd Cl
structure Fx(w wr:World)(c:Du)(x:He)(RC RI:Array Value)(n:Nat)(xs:List Value)(F:Nat->Nat->Value)(B0:Nat)(P:Nat->Value)(VA:Nat->Option Addr)(VC:Nat->Nat)(RA:Option Addr)(RC':Nat):Prop where
 rf:KU w wr c.fr RC RI F VA (W5 c x) VC
 bS:Ae wr (w.heap.size+4) 79 #[P 0,P 1,P 2,P 3]
 hB:w.heap.size+5<=B0/\B0<=wr.heap.size
 old:∀s:Nat,s<4->(s:Int)≠x.bad->FE wr (w.heap.size+5) B0 (P s) 5 (s:Int) c.fr (Fy (G5 c x s))
 rp:wr.ownsRow B0 70 14 (.slice RA n RC') n xs
 ne:∀j,j<4->0<(W5 c x j).length->∀a,VA j=some a->(Value.slice RA n RC').ownBlock≠some a.block
section
variable {w wr w' : World} {c : Du} {x : He} {RC RI : Array Value} {n : Nat} {xs : List Value} {F : Nat -> Nat -> Value} {B0 : Nat} {P : Nat -> Value} {VA : Nat -> Option Addr} {VC : Nat -> Nat} {RA : Option Addr} {RC' : Nat}
def Fx.below(h:Fx w wr c x RC RI n xs F B0 P VA VC RA RC')(hb:Below wr.heap.size wr w'):Fx w w' c x RC RI n xs F B0 P VA VC RA RC':=
 ⟨h.rf.below hb,h.bS.below hb h.bS.lt,⟨h.hB.1,Nat.le_trans h.hB.2 hb.size⟩,fun s X Y=>(h.old s X Y).keep (fun b _ Z=>hb.block b (Nat.lt_of_lt_of_le Z h.hB.2)) Nr Nr,ownsRow_below h.rp hb,h.ne⟩
def Fx.drew(h:Fx w wr c x RC RI n xs F B0 P VA VC RA RC'):Fx w wr.drew c x RC RI n xs F B0 P VA VC RA RC':=⟨h.rf.drew,h.bS.drew,h.hB,h.old,h.rp,h.ne⟩
def Fx.node(h:Fx w wr c x RC RI n xs F B0 P VA VC RA RC'){k:Nat}(O:k<4)(f:Nat->Value)(A:Option Addr)(Y:Nat)(N:Rd wr wr.heap.size 1 A (W5 c x k).length (Au (W5 c x k)))(J:A=none->Y=0)(M:(W5 c x k).length<=Y)(Z:∀a,A=some a->w.heap.size+5<=a.block/\(Value.slice RA n RC').ownBlock≠some a.block):
  Fx w (wr.setCells (w.heap.size+3) (1+k*74) (row 74 (Ab f (.slice A (W5 c x k).length Y))).toList) c x RC RI n xs (setAt F k f) B0 P (setAt VA k A) (setAt VC k Y) RA RC':=by
 obtain⟨W,V⟩:=Ib (w.heap.size+3) (row 74 (Ab f (.slice A (W5 c x k).length Y))).toList (1+k*74) wr;have T:=h.hB;have X:=h.rf.node O f A (W5 c x k) Y N J M (fun _ a e=>.inr (Z a e).1);rw[Hw]at X;refine⟨X,Al (w:=wr) Aa _ _ _ h.bS,⟨T.1,by rw[W];exact T.2⟩,fun s X R=>(h.old s X R).keep (fun b Z _=>V b Aa) Nr Nr,h.rp.kept (FQ wr (w.heap.size+3) (row 74 (Ab f (.slice A (W5 c x k).length Y))).toList (1+k*74)) (.inr fun e=>by have R:=(h.rp.lt _ e).1;omega),fun j I L a e=>?_⟩
 by_cases U:j=k
 .subst U;rw[AY]at e;exact(Z a e).2
 rw[Bj _ _ U]at e;exact h.ne j I L a e
def Fx.other(h:Fx w wr c x RC RI n xs F B0 P VA VC RA RC'){g:Nat}(Y:wr.grownBy w' (some g))(Z:w'.heap.size=wr.heap.size)(V:B0<=g)(X:∀j,j<4->0<(W5 c x j).length->∀a,VA j=some a->a.block≠g)(T:(Value.slice RA n RC').ownBlock≠some g):Fx w w' c x RC RI n xs F B0 P VA VC RA RC':=by
 have W:=h.hB;exact⟨h.rf.other Y Z Aa X,h.bS.grown Y (fun e=>by injection e with e;omega),⟨W.1,by rw[Z];exact W.2⟩,fun s R U=>(h.old s R U).keep (fun b _ hb=>Y.block b Aa (fun e=>by injection e with e;omega)) Nr Nr,h.rp.kept Y (.inr T),h.ne⟩
def Fx.grew(h:Fx w wr c x RC RI n xs F B0 P VA VC RA RC'){R:Nat}{V:List Value}{O:Option Addr}{c4:Nat}(U:wr.grownBy w' (Value.slice RA n RC').ownBlock)(A:w'.ownsRow B0 70 14 (.slice O R c4) R V)(N:(Value.slice O R c4).ownBlock=(Value.slice RA n RC').ownBlock\/(Value.slice O R c4).ownBlock=some wr.heap.size):Fx w w' c x RC RI R V F B0 P VA VC O c4:=by
 have H:=h.hB;have T:∀g,(Value.slice RA n RC').ownBlock=some g->B0<=g:=fun g e=>(h.rp.lt g e).1;have W:∀b,b<B0->b<wr.heap.size->w'.heap[b]?=wr.heap[b]?:=fun b G L=>U.block b L (fun e=>by have:=T b e.symm;omega)
 have E:∀j,j<4->0<(W5 c x j).length->∀a,VA j=some a->a.block<wr.heap.size:=fun j Z X a e=>by
  obtain⟨_,_,J,_⟩:=h.rf.v j Z;obtain⟨b,o,Y,hb,_⟩:=J.2 X;rw[Y]at e;injection e with e;subst e;exact hb
 have M:=h.bS.lt;refine⟨⟨(W _ Aa h.rf.bC.lt).trans h.rf.bC,(W _ Aa h.rf.bI.lt).trans h.rf.bI,(W _ Aa h.rf.bO.lt).trans h.rf.bO,(W _ Aa h.rf.bD.lt).trans h.rf.bD,fun j Z=>?_,?_⟩,(W _ Aa M).trans h.bS,⟨H.1,Nat.le_trans H.2 U.size⟩,fun s G L=>(h.old s G L).keep (fun b _ hb=>W b hb Aa) Nr Nr,A,fun j Z X a e=>?_⟩
 .obtain⟨B,C,J,D⟩:=h.rf.v j Z;exact⟨B,C,Cr J U.size (fun X a e=>U.block a.block (E j Z X a e) (fun Y=>h.ne j Z X a e Y.symm)),D⟩
 . exact h.rf.b.grown U h.rf.b.size (fun g e=>by have:=T g e;omega)
 rcases N with Y|Y
 . rw[Y];exact h.ne j Z X a e
 rw[Y];intro I;injection I with I;have:=E j Z X a e;omega
def Fx.lo(h:Fx w wr c x RC RI n xs F B0 P VA VC RA RC'):(∀j,j<4->0<(W5 c x j).length->∀a,VA j=some a->a.block<wr.heap.size)/\∀g,(Value.slice RA n RC').ownBlock=some g->g<wr.heap.size:=
 ⟨fun j W Y a e=>by
  obtain⟨_,_,X,_⟩:=h.rf.v j W;obtain⟨b,o,Z,hb,_⟩:=X.2 Y
  rw[Z]at e;injection e with e;subst e;exact hb,fun g e=>(h.rp.lt g e).2⟩
def Fx.qC(h:Fx w wr c x RC RI n xs F B0 P VA VC RA RC'){i:Nat}(hi:i<4):wr.rangeAt (w.heap.size+3) (1+i*74) ((List.range 74).map (Ab (F i) (.slice (VA i) (W5 c x i).length (VC i)))):=by
 have h:=Dx h.rf.bD (1+i*74) 74 Aa
 rw[List.map_congr_left (g:=Ab (F i) (.slice (VA i) (W5 c x i).length (VC i))) (fun j Z=>by
  have Z:=List.mem_range.1 Z
  unfold Ak
  rw[Aj Aa,show(1+i*74+j-1)/74=i by omega,show(1+i*74+j-1)%74=j by omega]
  rfl)]at h
 exact h
def Fx.pu(h:Fx w wr c x RC RI n xs F B0 P VA VC RA RC'){k:Nat}(T:k<4){Z:Nat}{C:Array Value}(O:Ae wr Z 70 C)(X:B0<=Z)(J:∀j,j<4->0<(W5 c x j).length->∀a,VA j=some a->a.block<Z)(V:∀g,(Value.slice RA n RC').ownBlock=some g->g<Z)(f:Nat->Value)(A:Option Addr)(cc:Nat)(hr:Rd wr wr.heap.size 1 A (W5 c x k).length (Au (W5 c x k)))(hA:A=none->cc=0)(hL:(W5 c x k).length<=cc)(hA2:∀a,A=some a->Z<a.block)(R:Array Value):
  Fx w ((wr.setCells (w.heap.size+3) (1+k*74) (row 74 (Ab f (.slice A (W5 c x k).length cc))).toList).setRow Z R) c x RC RI n xs (setAt F k f) B0 P (setAt VA k A) (setAt VC k cc) RA RC'/\Ae ((wr.setCells (w.heap.size+3) (1+k*74) (row 74 (Ab f (.slice A (W5 c x k).length cc))).toList).setRow Z R) Z 70 R/\Ae (wr.setCells (w.heap.size+3) (1+k*74) (row 74 (Ab f (.slice A (W5 c x k).length cc))).toList) Z 70 C:=by
 have H:=h.hB;have M:=h.node T f A cc hr hA hL (fun a e=>⟨by have:=hA2 a e;omega,fun U=>by have:=V _ U;have:=hA2 a e;omega⟩);have Y:=Al (b':=w.heap.size+3) (w:=wr) Aa (row 74 (Ab f (.slice A (W5 c x k).length cc))).toList (1+k*74) _ O
 generalize(wr.setCells (w.heap.size+3) (1+k*74) (row 74 (Ab f (.slice A (W5 c x k).length cc))).toList)=N at*
 refine⟨M.other (CK N Z R) (by simp[World.setRow]) X (fun j I L a e=>?_) (fun e=>by have:=V _ e;omega),Y.setRow R,Y⟩
 by_cases W:j=k
 .subst W;rw[AY]at e;have:=hA2 a e;omega
 rw[Bj _ _ W]at e;have:=J j I L a e;omega
def qH{i:Nat}{W:World}{A AI:Option Addr}{Z ci:Nat}(X:Gi c)(Y:∀i,i<12->Wf (x.rd i))(R:x.ls.length<=400)(hi:i<4)(hb:(i:Int)≠x.bad)(O:A=none->Z=0)(M:(W5 c x i).length<=Z)(T:Rd W W.heap.size 1 A (W5 c x i).length (Au (W5 c x i)))(V:Cc W W.heap.size AI (X5 c x i)):
  Calls prog 30 #[.agg (row 74 (Ab (F5 c x i) (.slice A (W5 c x i).length Z))),.slice AI (X5 c x i).length ci] W fun e w'=>Uh W w' (G6 c x i) (W5 c x i) (row 14 (EQ (G6 c x i))) e:=by
 obtain⟨N,U,L,J⟩:=Tm X Y (p:=4) Aa i hi hb;exact Ux (F5 c x i) L i hi N c.fr U A Z (W5 c x i) AI ci (X5 c x i) W.heap.size W Nr O M (jD X 5 i hi) T (Fa _ _ _ _ _ _ _ R i) V
def eT{Z:Int}{i:Nat}(hb:(i:Int)≠Z):Bz Z (i+1)=Bz Z i++[i]:=by
 show Bz Z i++(if(i:Int)=Z then []else [i])=_
 rw[Aj hb]
def cZ{Z:Int}{i:Nat}(hb:(i:Int)=Z):Bz Z (i+1)=Bz Z i:=by
 show Bz Z i++(if(i:Int)=Z then []else [i])=_
 rw[Ao hb,List.append_nil]
end
end Cf
end Go.Proofs.YtjobajeggllmiaaGreat
