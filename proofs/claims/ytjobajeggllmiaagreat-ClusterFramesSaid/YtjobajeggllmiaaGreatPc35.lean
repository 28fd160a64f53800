import Derived.Test.YtjobajeggllmiaaGreatPc0
import Derived.Test.YtjobajeggllmiaaGreatPc13
set_option linter.all false
set_option maxHeartbeats 100000000
set_option maxRecDepth 100000
namespace Go.Proofs.YtjobajeggllmiaaGreat
open _root_.Go.Proofs.Tryz
namespace Nd
open Go.RowKit Mem Rws
def VP(s:RS)(v:Int)(st:Bool)(A:Option Addr)(c:Nat)(U:List Bool)(B:Nat)(w:World)(hB:B<=w.heap.size)(hl:U.length<=140737488351232)(hr:Rd w B 1 A U.length (Au U)):
  Calls prog 58 #[.agg s.row,.agg (Gx v st A U.length c)] w fun e w'=>Uy w w' (Fv s st U) e:=by
 have HR:=zz hr
 have is:∀s:RS,(prog.info? 30).map (·.size)=some s.row.size:=fun s=>by unfold RS.row;rw[Ag];kernel_rfl
 have zs:∀s:RS,(RV:Array Value).size=s.row.size:=fun s=>by unfold RS.row;rw[Ag];rfl
 have IS:=zz is;have ZS:=zz zs;clear hr is zs;have R:∀w,Calls prog 92 #[.agg s.row] w fun e w'=>e=.returned (.bool (Ji s.f s.m s.j 4))/\Below w.heap.size w w':=fun w=>OX s.f s.m s.j w;have D:=zz R;clear R;obtain⟨Ro,qR⟩:=AJ (s.row);have rE:=zz qR;rw[qR]at D ⊢
 have iR:(prog.info? 30).map (·.size)=some Ro.size:=by rw[←qR];exact IS.o s
 have zR:(RV:Array Value).size=Ro.size:=by rw[←qR];exact ZS.o s
 have oR:Ro.all (·.oneCell')=true:=by rw[←qR];exact IK s
 have iZ:(prog.info? 30).map (·.size)=some (RV:Array Value).size:=Ap;have oZ:(RV:Array Value).all (·.oneCell')=true:=GR;clear qR;have rH:=zz Tp
 have W1:=zz (show Ae (((w.alloc (.cells Ro 30)).alloc (.cells (Gx v st A U.length c) 35)).alloc (.cells RV 30)) w.heap.size 30 Ro from((Ae.new rfl).alloc _).alloc _)
 have W2:=zz (show Ae (((w.alloc (.cells Ro 30)).alloc (.cells (Gx v st A U.length c) 35)).alloc (.cells RV 30)) (w.heap.size+1) 35 (Gx v st A U.length c)from(Ae.new Bq).alloc _)
 have W3:Hid (Ae (((w.alloc (.cells Ro 30)).alloc (.cells (Gx v st A U.length c) 35)).alloc (.cells RV 30)) (w.heap.size+1+1) 30 RV):=zz (Ae.new Bq);have WB:=zz ((((Below.refl w.heap.size w).alloc Nr (.cells Ro 30)).alloc Bq (.cells (Gx v st A U.length c) 35)).alloc Ec (.cells RV 30))
 unfold Gx at*
 go_in
 go_upto_region 1 with fail
 generalize(((w.alloc (.cells Ro 30)).alloc (.cells (PX v st A U.length c) 35)).alloc (.cells RV 30))=W at*
 have y1:=W2.o.cell 1;have y2:=W2.o.cell 2;simp only[List.getElem?_toArray,List.getElem?_cons_zero,List.getElem?_cons_succ]at y1 y2
 by_cases h4:U.length=4
 .have e4:((U.length:Int)!=4)=false:=by rw[h4];rfl
  have H4:=zz h4
  cases R:Ji s.f s.m s.j 4 with
  |false=>
   rw[R]at D
   have r:=zz (show Fv s st U=(MW,[],3)by unfold Fv;rw[Aj Aa,Ao R])
   clear R h4
   go_wp2_with(refine Ad rfl 30 _ rfl w.heap.size rfl W1.o _ underlying30 rfl iR ?_)
   refine(D.o _).mono ?_;rintro e w2 ⟨rfl,hb⟩;have X3:=AU W3 hb;have XB:=CU WB hb;clear hb
   go_wp2_with(refine wpList_store_row rfl 30 _ _ rfl (w.heap.size+1+1) RV rfl rfl 30 _ X3.o iZ rfl oZ ?_)
   refine CR (x:=.slice none 0 0) (y:=.int .i64 3) rfl rfl rfl rfl (X3.o.setRow RV) ⟨by rw[underlying30],iZ⟩ rfl ?_;rw[r.o];exact⟨none,0,by rw[rH.o];rfl,Rd.nil _ _ _ _,below_setRow XB.o Aa _,fun _=>rfl⟩
  |true=>
   rw[R]at D
   have rM:=zz (fun i hi=>show GoodAt s i from Pf R i hi)
   have qQ:¬(Ji s.f s.m s.j 4=false):=by rw[R];decide
   cases st with
   |false=>
    have r:=zz (show Fv s false U=(s,[],0)by unfold Fv;rw[Aj Aa,Aj qQ,Ao rfl])
    clear R h4 qQ
    go_wp2_with(refine Ad rfl 30 _ rfl w.heap.size rfl W1.o _ underlying30 rfl iR ?_)
    refine(D.o _).mono ?_;rintro e w2 ⟨rfl,hb⟩;have X1:=AU W1 hb;have X2:=AU W2 hb;have X3:=AU W3 hb;have XB:=CU WB hb;have y1:=X2.o.cell 1;simp only[List.getElem?_toArray,List.getElem?_cons_zero,List.getElem?_cons_succ]at y1;have rG:(RV:Array Value).size=Ro.size:=zR;clear hb;go_wp2_with fail;refine wp_loop_rounds 1 ?_;rw[rounds_succ]
    go_wp2_with(first
     |(refine Ad rfl 30 _ rfl w.heap.size rfl X1.o _ underlying30 rfl iR ?_)
     |(refine wpList_store_row rfl 30 _ _ rfl (w.heap.size+1+1) Ro rfl rfl 30 _ X3.o iR rG oR ?_))
    refine CR (x:=.slice none 0 0) (y:=.int .i64 0) rfl rfl rfl rfl (X3.o.setRow Ro) ⟨by rw[underlying30],iR⟩ rfl ?_;rw[r.o];exact⟨none,0,by rw[rE.o];rfl,Rd.nil _ _ _ _,below_setRow XB.o Aa _,fun _=>rfl⟩
   |true=>
    have r:=zz (show Fv s true U=((many s (fun i=>U.getD i false) 4).1,(many s (fun i=>U.getD i false) 4).2,0)by unfold Fv;rw[Aj Aa,Aj qQ,Aj El])
    clear R h4 qQ
    go_wp2_with(refine Ad rfl 30 _ rfl w.heap.size rfl W1.o _ underlying30 rfl iR ?_)
    refine(D.o _).mono ?_;rintro e w2 ⟨rfl,hb⟩;have X1:=AU W1 hb;have X2:=AU W2 hb;have X3:=AU W3 hb;have XB:=CU WB hb;have y1:=X2.o.cell 1;have y2:=X2.o.cell 2;simp only[List.getElem?_toArray,List.getElem?_cons_zero,List.getElem?_cons_succ]at y1 y2;have rG:(RV:Array Value).size=Ro.size:=zR;clear hb W1 W2 W3 WB D;rw[←rE.o]at X1;obtain⟨ag,rF⟩:∃ag:Nat->Bool,(fun i=>U.getD i false)=ag:=⟨_,rfl⟩;have qY:=zz rF;clear rF;have h4:=H4.o;go_wp2_with fail
    go_loopw[7,8] (fun l i wr=>∃(k n:Nat) (A':Option Addr) (c':Nat),k<=4/\i=.int .i64 k/\l=.slice A' n c'/\n=(many s ag k).2.length/\Ae wr w.heap.size 30 (many s ag k).1.row/\Ae wr (w.heap.size+1) 35 (PX v true A U.length c)/\Ae wr (w.heap.size+1+1) 30 RV/\wr.ownsRow (w.heap.size+1+1+1) 130 2 (.slice A' n c') n (JD (many s ag k).2)/\Below w.heap.size w wr) (fun _ i _=>4-(intOf i).toNat)
    .exact⟨0,0,none,0,Aa,rfl,rfl,rfl,X1.o,X2.o,X3.o,World.ownsRow_nil _ _ _ _,XB.o⟩
    clear X1 X2 X3 XB;obtain⟨k,n,A',c',hk,rfl,rfl,hn,r1,r2,r3,qV,rb⟩:=hrel;have rO:=Rc s ag k;rw[←hn]at rO;have N:=zz hn.symm;have z1:=r2.cell 1;simp only[List.getElem?_toArray,List.getElem?_cons_zero,List.getElem?_cons_succ]at z1;have V:=zz r1;have H:=zz r2;have J:=zz r3;have G:=zz qV;have I:=zz rb;clear r1 r2 r3 qV rb hn
    by_cases X:k<4
    .obtain⟨b0,o,u,rfl,sG,hu,E⟩:=(HR.o.below (I.o.mono hB)).at (show k<U.length by omega)
     rw[Oc U k Aa]at hu;have hu:=(Option.some.inj hu).symm;subst hu
     have rq:ag k=U[k]'Aa:=by rw[←qY.o];simp[List.getD,show k<U.length by omega]
     generalize U[k]'_=b at*
     have r9:(0:Int)<=(k:Int):=Aa;have rY:(k:Int)<(U.length:Int):=Aa;have sw:(k:Int)<4:=Aa;have t:=Me s ag k k Nr (rM.o k X);obtain⟨S,hS⟩:=AJ ((many s ag k).1);rw[hS]at t;obtain⟨f,m,j⟩:=S;have O:=zz hS;have V:Hid (Ae wr w.heap.size 30 (row 12 (Bo f m j))):=zz (by have h:=V.o;rw[hS]at h;exact h);have t:GoodAt ⟨f,m,j⟩ k:=t;clear hS;obtain⟨q,hq⟩:=AJ (m k);obtain⟨p,hp⟩:=AJ (j k)
     have x1: wr.cell? ⟨w.heap.size,4+k,none⟩=some (.int .i64 q):=by rw[V.o.cell,Ah Aa,EB X,hq]
     have x2: wr.cell? ⟨w.heap.size,8+k,none⟩=some (.int .i64 p):=by rw[V.o.cell,Ah Aa,FC X,hp]
     have rJ:0<=q/\q<=2/\0<=p/\p<3:=by
      cases hf:f k with
      |true=>have h:=TY t hf;dsimp only at h;omega
      |false=>have h:=Qh t hf;dsimp only at h;omega
     obtain⟨su,rX,rU,rV⟩:=rJ;have sD:=zz t;have d:=zz hq;have qX:=zz hp;have Y:=zz rq;clear t hq hp rq;have z2:=H.o.cell 2;simp only[List.getElem?_toArray,List.getElem?_cons_zero,List.getElem?_cons_succ]at z2;rw[h4]at z2;go_wp2_with fail
     go_region
     have E: wr.drew.cell? ⟨b0,o+k,none⟩=some (.bool b):=E;have z2: wr.drew.cell? ⟨w.heap.size+1,2,none⟩=some (.slice (some ⟨b0,o,none⟩) 4 c):=z2;have V:=zz V.o.drew;have H:=zz H.o.drew;have J:=zz J.o.drew;have G:=zz (ownsRow_below G.o ((Below.refl wr.heap.size wr).drew));have I:=zz I.o.drew;clear x1 x2 z1
     generalize wr.drew=w3 at*
     have x1: w3.cell? ⟨w.heap.size,4+k,none⟩=some (.int .i64 q):=by rw[V.o.cell,Ah Aa,EB X,d.o]
     have x2: w3.cell? ⟨w.heap.size,8+k,none⟩=some (.int .i64 p):=by rw[V.o.cell,Ah Aa,FC X,qX.o]
     have xi: w3.cell? ⟨w.heap.size,k,none⟩=some (.bool (f k)):=by rw[V.o.cell,Ah Aa,EZ X]
     have fi:=V.o.thaw k;have fm:=V.o.thaw (4+k);have fj:=V.o.thaw (8+k);have rW:IntKind.i64.wrap (q+1)=q+1:=IntWalk.i64_in _ Aa;have sH:IntKind.i64.wrap (p+1)=p+1:=IntWalk.i64_in _ Aa;have i3:(prog.info? 30).map (·.size)=some (row 12 (Bo f m j)).size:=Eg
     cases hf:f k with
     |true=>
      rw[hf]at xi;have HF:=zz hf;clear hf
      cases b with
      |true=>
       have Z:=zz (show one ⟨f,m,j⟩ k true=(⟨f,upd m k 0,j⟩,[])by unfold one;rw[Ao HF.o,Ao rfl])
       go_wp2_with fail
       refine⟨⟨k+1,n,A',c',Aa,BG,rfl,?_,?_,H.o.other (p:=⟨w.heap.size,4+k,none⟩) (by show w.heap.size+1≠w.heap.size;omega) _,J.o.other (p:=⟨w.heap.size,4+k,none⟩) (by show w.heap.size+1+1≠w.heap.size;omega) _,?_,I.o.setCell (p:=⟨w.heap.size,4+k,none⟩) Nr _⟩,Ck⟩
       . rw[Ct,O.o,Y.o,Z.o,List.append_nil,N.o]
       .rw[show(many s ag (k+1)).1=(one (many s ag k).1 k (ag k)).1 from rfl,O.o,Y.o,Z.o]
        have h:=V.o.set (4+k) (.int .i64 0);rw[EP _ _ _ k X]at h;exact h
       . rw[Ct,O.o,Y.o,Z.o,List.append_nil];exact Vt.Ch G.o Aa _
      |false=>
       by_cases rR:q+1<2
       .have hd:decide (2<=q+1)=false:=decide_eq_false Aa
        have Z:=zz (show one ⟨f,m,j⟩ k false=(⟨f,upd m k (q+1),j⟩,[])by unfold one;dsimp only;rw[Ao HF.o,Aj El,Aj (by rw[d.o];omega),d.o,show min (q+1) 2=q+1 by omega])
        go_wp2_with fail
        refine⟨⟨k+1,n,A',c',Aa,BG,rfl,?_,?_,H.o.other (p:=⟨w.heap.size,4+k,none⟩) (by show w.heap.size+1≠w.heap.size;omega) _,J.o.other (p:=⟨w.heap.size,4+k,none⟩) (by show w.heap.size+1+1≠w.heap.size;omega) _,?_,I.o.setCell (p:=⟨w.heap.size,4+k,none⟩) Nr _⟩,Ck⟩
        . rw[Ct,O.o,Y.o,Z.o,List.append_nil,N.o]
        .rw[show(many s ag (k+1)).1=(one (many s ag k).1 k (ag k)).1 from rfl,O.o,Y.o,Z.o]
         have h:=V.o.set (4+k) (.int .i64 (q+1));rw[EP _ _ _ k X]at h;exact h
        rw[Ct,O.o,Y.o,Z.o,List.append_nil];exact Vt.Ch G.o Aa _
       .have hd:decide (2<=q+1)=true:=decide_eq_true Aa;have rR:2<=q+1:=Aa
        go_upto_region 13 with fail
        refine wp_region_list ?_
        iterate 10
         refine Af Bb (fun K hK=>?_);go_simp
         try simp only[hd]
         refine hK _ _ ?_;(try simp only[Rg.lp])
        refine Ad Bb 30 _ rfl w.heap.size rfl V.o _ underlying30 rfl i3 ?_;(try simp only[Rg.lp]);refine Af Bb (fun K hK=>?_);go_simp
        go_at_call 93
        refine(T9 f m j _).mono ?_;rintro e w4 ⟨rfl,hb⟩;have rZ:=Lf f 4;obtain⟨C,hC⟩:∃C:Int,(FH f 4:Int)=C:=⟨_,rfl⟩;rw[hC];have V:=AU V hb;have H:=AU H hb;have J:=AU J hb;have G:=GJ G hb;have I:=CU I hb
        have x1: w4.cell? ⟨w.heap.size,4+k,none⟩=some (.int .i64 q):=by rw[V.o.cell,Ah Aa,EB X,d.o]
        have xi: w4.cell? ⟨w.heap.size,k,none⟩=some (.bool true):=by rw[V.o.cell,Ah Aa,EZ X,HF.o]
        have fi:=V.o.thaw k;have fm:=V.o.thaw (4+k);clear hb E z2 x2 fj
        by_cases hc:C<=2
        .have rQ:decide (2<C)=false:=decide_eq_false Aa
         have Z:=zz (show one ⟨f,m,j⟩ k false=(⟨f,upd m k 2,j⟩,[])by unfold one;dsimp only;rw[Ao HF.o,Aj El,Aj (by rw[d.o];omega),d.o,show min (q+1) 2=2 by omega])
         go_wp2_with fail
         all_goals
          refine⟨⟨k+1,n,A',c',Aa,BG,rfl,?_,?_,H.o.other (p:=⟨w.heap.size,4+k,none⟩) (by show w.heap.size+1≠w.heap.size;omega) _,J.o.other (p:=⟨w.heap.size,4+k,none⟩) (by show w.heap.size+1+1≠w.heap.size;omega) _,?_,I.o.setCell (p:=⟨w.heap.size,4+k,none⟩) Nr _⟩,Ck⟩
          . rw[Ct,O.o,Y.o,Z.o,List.append_nil,N.o]
          .rw[show(many s ag (k+1)).1=(one (many s ag k).1 k (ag k)).1 from rfl,O.o,Y.o,Z.o]
           have h:=V.o.set (4+k) (.int .i64 2);rw[EP _ _ _ k X]at h
           first|exact h|(rw[show(if 2<q+1 then(2:Int)else q+1)=2 by split<;>omega];exact h)
          rw[Ct,O.o,Y.o,Z.o,List.append_nil];exact Vt.Ch G.o Aa _
        .have rQ:decide (2<C)=true:=decide_eq_true Aa
         have Z:=zz (show one ⟨f,m,j⟩ k false=(⟨upd f k false,upd m k 0,j⟩,[(1,(k:Int))])by unfold one;dsimp only;rw[Ao HF.o,Aj El,Ao (by rw[d.o];omega)])
         go_upto_region 15 with fail
         have V:Hid (Ae ((w4.setCell ⟨w.heap.size,k,none⟩ (.bool false)).setCell ⟨w.heap.size,4+k,none⟩ (.int .i64 0)) w.heap.size 30 (RS.row ⟨upd f k false,upd m k 0,j⟩)):=zz (by
          have h:=(V.o.set (k) (.bool false)).set (4+k) (.int .i64 0);rw[NR _ _ _ k X,EP _ _ _ k X]at h
          exact h)
         have H:=zz ((H.o.other (p:=⟨w.heap.size,k,none⟩) (by show w.heap.size+1≠w.heap.size;omega) (.bool false)).other (p:=⟨w.heap.size,4+k,none⟩) (by show w.heap.size+1≠w.heap.size;omega) (.int .i64 0))
         have J:=zz ((J.o.other (p:=⟨w.heap.size,k,none⟩) (by show w.heap.size+1+1≠w.heap.size;omega) (.bool false)).other (p:=⟨w.heap.size,4+k,none⟩) (by show w.heap.size+1+1≠w.heap.size;omega) (.int .i64 0))
         have G:=zz (Vt.Ch (g:=w.heap.size) (i:=4+k) (Vt.Ch (g:=w.heap.size) (i:=k) G.o Aa (.bool false)) Aa (.int .i64 0));have I:=zz ((I.o.setCell (p:=⟨w.heap.size,k,none⟩) Nr (.bool false)).setCell (p:=⟨w.heap.size,4+k,none⟩) Nr (.int .i64 0))
         generalize((w4.setCell ⟨w.heap.size,k,none⟩ (.bool false)).setCell ⟨w.heap.size,4+k,none⟩ (.int .i64 0))=F at*
         have HN:Hid (Rd (F.alloc (.cells (QA 1 (k:Int)) 130)) (F.heap.size+1) 2 (some ⟨F.heap.size,0,none⟩) 1 [.int .i64 1,.int .i64 (k:Int)]):=zz (Un _ _ _ _);have T:Below F.heap.size F (F.alloc (.cells (QA 1 (k:Int)) 130)):=DC;have HQ:=GJ G T;have Q1:=AU V T;have Q2:=AU H T;have Q3:=AU J T;have QB:=CU I T
         have rC:=zz (show w.heap.size+1+1+1<=(F.alloc (.cells (QA 1 (k:Int)) 130)).heap.size from Q3.o.lt)
         clear T
         go_wp2_with(at_builtin;refine Aq _ rfl (.tmp 77) (.tmp 80) 98 rfl (base:=w.heap.size+1+1+1) TA rfl HQ.o rfl (fun h=>by cases h) HN.o GR GX Aa rC.o ?_;intro A4 c4 w4 rD L qW;have rA:=zz L;have M:=zz qW;clear L qW rD)
         have z:∀g,g<w.heap.size+1+1+1->some g≠(Value.slice A' n c').ownBlock:=fun g hg e=>by have:=(HQ.o.lt g e.symm).1;omega
         refine⟨⟨k+1,n+1,A4,c4,Aa,BG,rfl,?_,?_,Q2.o.grown M.o (z _ Aa),Q3.o.grown M.o (z _ Aa),?_,QB.o.grown M.o QB.o.size (fun g e=>by have:=(HQ.o.lt g e).1;omega)⟩,Ck⟩
         . rw[Ct,O.o,Y.o,Z.o,List.length_append,N.o];rfl
         . rw[show(many s ag (k+1)).1=(one (many s ag k).1 k (ag k)).1 from rfl,O.o,Y.o,Z.o];exact Q1.o.grown M.o (z _ Aa)
         . rw[Ct,O.o,Y.o,Z.o,Ih];exact rA.o
     |false=>
      rw[hf]at xi;have HF:=zz hf
      have ru:=zz (show ¬(f k=true)by rw[hf];decide)
      clear hf
      cases b with
      |false=>
       have Z:=zz (show one ⟨f,m,j⟩ k false=(⟨f,m,upd j k 0⟩,[])by unfold one;rw[Aj ru.o,Ao rfl])
       go_wp2_with fail
       refine⟨⟨k+1,n,A',c',Aa,BG,rfl,?_,?_,H.o.other (p:=⟨w.heap.size,8+k,none⟩) (by show w.heap.size+1≠w.heap.size;omega) _,J.o.other (p:=⟨w.heap.size,8+k,none⟩) (by show w.heap.size+1+1≠w.heap.size;omega) _,?_,I.o.setCell (p:=⟨w.heap.size,8+k,none⟩) Nr _⟩,Ck⟩
       . rw[Ct,O.o,Y.o,Z.o,List.append_nil,N.o]
       .rw[show(many s ag (k+1)).1=(one (many s ag k).1 k (ag k)).1 from rfl,O.o,Y.o,Z.o]
        have h:=V.o.set (8+k) (.int .i64 0);rw[Gt _ _ _ k X]at h;exact h
       . rw[Ct,O.o,Y.o,Z.o,List.append_nil];exact Vt.Ch G.o Aa _
      |true=>
       by_cases rP:p+1<3
       .have hd:decide (3<=p+1)=false:=decide_eq_false Aa
        have Z:=zz (show one ⟨f,m,j⟩ k true=(⟨f,m,upd j k (p+1)⟩,[])by unfold one;dsimp only;rw[Aj ru.o,Aj El,Aj (by rw[qX.o];omega),qX.o])
        go_wp2_with fail
        refine⟨⟨k+1,n,A',c',Aa,BG,rfl,?_,?_,H.o.other (p:=⟨w.heap.size,8+k,none⟩) (by show w.heap.size+1≠w.heap.size;omega) _,J.o.other (p:=⟨w.heap.size,8+k,none⟩) (by show w.heap.size+1+1≠w.heap.size;omega) _,?_,I.o.setCell (p:=⟨w.heap.size,8+k,none⟩) Nr _⟩,Ck⟩
        . rw[Ct,O.o,Y.o,Z.o,List.append_nil,N.o]
        .rw[show(many s ag (k+1)).1=(one (many s ag k).1 k (ag k)).1 from rfl,O.o,Y.o,Z.o]
         have h:=V.o.set (8+k) (.int .i64 (p+1));rw[Gt _ _ _ k X]at h;exact h
        rw[Ct,O.o,Y.o,Z.o,List.append_nil];exact Vt.Ch G.o Aa _
       have hd:decide (3<=p+1)=true:=decide_eq_true Aa;have rP:3<=p+1:=Aa
       have Z:=zz (show one ⟨f,m,j⟩ k true=(⟨upd f k true,m,upd j k 0⟩,[(2,(k:Int))])by unfold one;dsimp only;rw[Aj ru.o,Aj El,Ao (by rw[qX.o];omega)])
       go_upto_region 22 with fail
       have V:Hid (Ae ((w3.setCell ⟨w.heap.size,k,none⟩ (.bool true)).setCell ⟨w.heap.size,8+k,none⟩ (.int .i64 0)) w.heap.size 30 (RS.row ⟨upd f k true,m,upd j k 0⟩)):=zz (by
        have h:=(V.o.set (k) (.bool true)).set (8+k) (.int .i64 0);rw[NR _ _ _ k X,Gt _ _ _ k X]at h
        exact h)
       have H:=zz ((H.o.other (p:=⟨w.heap.size,k,none⟩) (by show w.heap.size+1≠w.heap.size;omega) (.bool true)).other (p:=⟨w.heap.size,8+k,none⟩) (by show w.heap.size+1≠w.heap.size;omega) (.int .i64 0))
       have J:=zz ((J.o.other (p:=⟨w.heap.size,k,none⟩) (by show w.heap.size+1+1≠w.heap.size;omega) (.bool true)).other (p:=⟨w.heap.size,8+k,none⟩) (by show w.heap.size+1+1≠w.heap.size;omega) (.int .i64 0))
       have G:=zz (Vt.Ch (g:=w.heap.size) (i:=8+k) (Vt.Ch (g:=w.heap.size) (i:=k) G.o Aa (.bool true)) Aa (.int .i64 0));have I:=zz ((I.o.setCell (p:=⟨w.heap.size,k,none⟩) Nr (.bool true)).setCell (p:=⟨w.heap.size,8+k,none⟩) Nr (.int .i64 0))
       generalize((w3.setCell ⟨w.heap.size,k,none⟩ (.bool true)).setCell ⟨w.heap.size,8+k,none⟩ (.int .i64 0))=F at*
       have HN:Hid (Rd (F.alloc (.cells (QA 2 (k:Int)) 130)) (F.heap.size+1) 2 (some ⟨F.heap.size,0,none⟩) 1 [.int .i64 2,.int .i64 (k:Int)]):=zz (Un _ _ _ _);have T:Below F.heap.size F (F.alloc (.cells (QA 2 (k:Int)) 130)):=DC;have HQ:=GJ G T;have Q1:=AU V T;have Q2:=AU H T;have Q3:=AU J T;have QB:=CU I T
       have rC:=zz (show w.heap.size+1+1+1<=(F.alloc (.cells (QA 2 (k:Int)) 130)).heap.size from Q3.o.lt)
       clear T
       go_wp2_with(at_builtin;refine Aq _ rfl (.tmp 113) (.tmp 116) 98 rfl (base:=w.heap.size+1+1+1) TA rfl HQ.o rfl (fun h=>by cases h) HN.o GR GX Aa rC.o ?_;intro A4 c4 w4 rD L qW;have rA:=zz L;have M:=zz qW;clear L qW rD)
       have z:∀g,g<w.heap.size+1+1+1->some g≠(Value.slice A' n c').ownBlock:=fun g hg e=>by have:=(HQ.o.lt g e.symm).1;omega
       refine⟨⟨k+1,n+1,A4,c4,Aa,BG,rfl,?_,?_,Q2.o.grown M.o (z _ Aa),Q3.o.grown M.o (z _ Aa),?_,QB.o.grown M.o QB.o.size (fun g e=>by have:=(HQ.o.lt g e).1;omega)⟩,Ck⟩
       . rw[Ct,O.o,Y.o,Z.o,List.length_append,N.o];rfl
       . rw[show(many s ag (k+1)).1=(one (many s ag k).1 k (ag k)).1 from rfl,O.o,Y.o,Z.o];exact Q1.o.grown M.o (z _ Aa)
       rw[Ct,O.o,Y.o,Z.o,Ih];exact rA.o
    obtain rfl:k=4:=Aa;clear X;obtain⟨R4,qU⟩:=AJ ((many s ag 4).1.row)
    have i4:(prog.info? 30).map (·.size)=some R4.size:=by rw[←qU];exact IS.o _
    have z4:(RV:Array Value).size=R4.size:=by rw[←qU];exact ZS.o _
    have o4:R4.all (·.oneCell')=true:=by rw[←qU];exact IK _
    rw[qU]at V;have rT:=zz qU;clear qU
    go_wp2_with(first
     |(refine Ad rfl 30 _ rfl w.heap.size rfl V.o _ underlying30 rfl i4 ?_)
     |(refine wpList_store_row rfl 30 _ _ rfl (w.heap.size+1+1) R4 rfl rfl 30 _ J.o i4 z4 o4 ?_))
    refine CR (x:=.slice A' n c') (y:=.int .i64 0) rfl rfl rfl rfl (J.o.setRow R4) ⟨by rw[underlying30],i4⟩ rfl ?_;rw[r.o,qY.o]
    have qZ:=Ay G.o (show w.heap.size+1+1<w.heap.size+1+1+1 by omega) R4
    refine⟨A',c',?_,?_,below_setRow I.o Aa _,(BU qZ).1⟩
    . dsimp only;rw[rT.o,N.o]
    dsimp only;rw[N.o];exact Rd.Bu qZ
 have e4:((U.length:Int)!=4)=true:=by simp[bne];omega
 have r:=zz (show Fv s st U=(MW,[],8)by unfold Fv;rw[Ao h4])
 clear h4
 go_wp2_with(refine wpList_store_row rfl 30 _ _ rfl (w.heap.size+1+1) RV rfl rfl 30 _ W3.o iZ rfl oZ ?_)
 refine CR (x:=.slice none 0 0) (y:=.int .i64 8) rfl rfl rfl rfl (W3.o.setRow RV) ⟨by rw[underlying30],iZ⟩ rfl ?_;rw[r.o];exact⟨none,0,by rw[rH.o];rfl,Rd.nil _ _ _ _,below_setRow WB.o Aa _,fun _=>rfl⟩
end Nd
end Go.Proofs.YtjobajeggllmiaaGreat
