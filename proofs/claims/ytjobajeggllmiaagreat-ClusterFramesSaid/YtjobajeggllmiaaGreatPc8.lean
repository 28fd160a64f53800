import Derived.Test.YtjobajeggllmiaaGreatPc0
import Derived.Test.YtjobajeggllmiaaGreatPc7
set_option linter.all false
set_option maxHeartbeats 100000000
set_option maxRecDepth 100000
namespace Go.Proofs.YtjobajeggllmiaaGreat
open Ms Rg _root_.Go.Proofs.Tryz
namespace Cl
open Go.ChangeShapes Go.WideShapes Go.ChangeAt Go.RowKit Mem Rws Nd
def Rt{P:Program}(w:World){base:Nat}{t ty e:TypeId}{z:Value}{size Z:Nat}(E:Elem P t e z size Z){v:Value}{n:Nat}{xs:List Value}(hown:w.ownsRow base e size v n xs){ad:Addr}{m c:Nat}{news:List Value}(hl:news.length=m*size)(hc:∀j u,news[j]?=some u-> w.cell? (ad.add j)=some u)(h1:∀u∈news,u.oneCell'=true)(h63:n+m<=maxLen)(hbytes:(n+m)*Z<=140737488355328)(hbase:base<=w.heap.size):
  ∃Y X w',(Builtin.append_ #[t,t] ty #[v,.slice (some ad) m c]).run P w=.ok (.slice Y (n+m) X) w'/\w'.ownsRow base e size (.slice Y (n+m) X) (n+m) (xs++news)/\w.grownBy w' v.ownBlock/\((Value.slice Y (n+m) X).ownBlock=v.ownBlock\/(Value.slice Y (n+m) X).ownBlock=some w.heap.size):=by
 obtain⟨i,hi,T,U,V⟩:=info_parts E.info;obtain⟨M,w',W,R,O,_,N⟩:=run_append_own_at (P:=P) w base t ty e i z size Z E.und hi T U V E.cells E.pos v n xs hown ad m c news hl hc h1 h63 hbytes hbase;obtain⟨Y,X,rfl,_⟩:=Ip R;exact⟨Y,X,w',W,R,O,N⟩
def Kl{P:Program}(w:World){o:Oper}{a:Act}{K:Act->World->Prop}{Q:Exit->Act->World->Prop}(s x:Operand)(t:TypeId)(ho:o.op=.call { callee:=.builtin .append,args:=#[s,x],argTypes:=#[t,t] }){base:Nat}{e:TypeId}{z:Value}{size bytes:Nat}(E:Elem P t e z size bytes){v:Value}{n:Nat}{xs:List Value}(hs:a.eval s=v)(hown:w.ownsRow base e size v n xs){ad:Addr}{m c:Nat}{news:List Value}(hx:a.eval x=.slice (some ad) m c)(hl:news.length=m*size)(hc:∀j u,news[j]?=some u-> w.cell? (ad.add j)=some u)(h1:∀u∈news,u.oneCell'=true)(h63:n+m<=maxLen)(hbytes:(n+m)*bytes<=140737488355328)(hbase:base<=w.heap.size)(h:∀Z Y w',w'.ownsRow base e size (.slice Z (n+m) Y) (n+m) (xs++news)->w.grownBy w' v.ownBlock->((Value.slice Z (n+m) Y).ownBlock=v.ownBlock\/(Value.slice Z (n+m) Y).ownBlock=some w.heap.size)->K (a.put o.dst (.slice Z (n+m) Y)) w'):o.wp P a w K Q:=by
 obtain⟨Z,Y,w',X,U,V,W⟩:=Rt (P:=P) (ty:=o.type) w E hown hl hc h1 h63 hbytes hbase
 unfold Oper.wp execOp
 simp only[ho,resolve,invoke,builtin,Sem.run_bind,Sem.run_pure,Result.andThen_ok,List.map_toArray,List.map_cons,List.map_nil,hs,hx];rw[X];exact h Z Y w' U V W
def Ms.lX{Z:List Nat}(h:GU Z=0):E5 Z<=24:=by
 unfold GU at h
 (repeat' split at h)<;>first|omega|(exact absurd h El)|omega
open Classical in
noncomputable def came(Y:Int)(Z:List Nat):Option Cw:=if GU Z=0/\((Ef Z 2:Nat):Int)=Y then some ⟨Ef Z 1,Y,Dn Z 3 4,Ka Z (E5 Z)⟩else none
def Came(s Y:Bl)(Z:Nat)(o:Option Cw):Prop:=match o with|none=>Y=s|some m=>∃A c,Y=s.box Z A c (s.bX Z++[m])
def OW(R k:Nat)(s:Bl)(v:Int)(Y:Nat)(V:Y<4)(A:Option Addr)(c:Nat)(bs:List Nat)(B:Nat)(w:World)(h:Cj w R k s)(qW:((s.bX Y).length+1)*48<=140737488351232)(hB:B<=w.heap.size)(hA:A=none->c=0)(i:bs.length<=c)(qQ:c<=maxLen)(hc:bs.length<=140737488351232)(C:∀x∈bs,x<256)(hr:Rd w B 1 A bs.length (Sm.Br bs)):
  Calls prog 66 #[.pointer (some ⟨R,0,none⟩),.int .i64 v,.int .i64 (Y:Int),.slice A bs.length c] w fun e w'=>e=.returned (.tuple #[])/\∃s',Came s s' Y (came v bs)/\Cj w' R k s'/\Keep w w' R s s':=by
 have Z:=zz h;have CD:=zz (Xc A c bs B w hB hA i qQ hc C hr);clear h hr C
 go_in
 go_wp2_with fail;refine CD.o.mono ?_;intro e U p
 unfold FX Ms.Jg at p
 by_cases y:GU bs=0
 .rw[Ao y]at p;obtain⟨X,W,rfl,H,hb⟩:=p;have F:=Z;have Z:=zz (Z.o.below hb);have J:=zz (Keep.of_below (R:=R) (s:=s) hb)
  have qU:=zz (show k<=w.heap.size from Nat.le_trans F.o.low (Nat.le_of_lt F.o.blk.lt))
  have qV:=zz (Ms.lX y);have q:=zz H;have C:=hb.size;clear hb H
  go_upto_region 1 with fail
  have hb:Below U.heap.size U (U.alloc (.cells (BL (Ef bs 1:Int) (Ef bs 2:Int) (Dn bs 3 4:Int) X (E5 bs) W) 65)):=DC;have Z:=zz (Z.o.below hb);have J:=zz (J.o.trans (Keep.of_below (R:=R) (s:=s) hb));have d:=zz hb
  have r:=zz (show Ae (U.alloc (.cells (BL (Ef bs 1:Int) (Ef bs 2:Int) (Dn bs 3 4:Int) X (E5 bs) W) 65)) U.heap.size 65 (BL (Ef bs 1:Int) (Ef bs 2:Int) (Dn bs 3 4:Int) X (E5 bs) W)from Ae.fresh _ _ _)
  clear hb
  generalize(U.alloc (.cells (BL (Ef bs 1:Int) (Ef bs 2:Int) (Dn bs 3 4:Int) X (E5 bs) W) 65))=O at*
  obtain⟨g,D⟩:=AJ (U.heap.size);have qX:=zz D;rw[D]at r ⊢;clear D
  have q:=zz (Nd.ownsRow_below q.o (show Below U.heap.size U O from d.o))
  have n:=zz r.o;have y1:=n.o.cell 1;simp only[List.getElem?_toArray,List.getElem?_cons_zero,List.getElem?_cons_succ]at y1
  by_cases hF:((Ef bs 2:Nat):Int)=v
  .subst hF
   have M:=zz (show came (Ef bs 2:Int) bs=some ⟨Ef bs 1,(Ef bs 2:Int),Dn bs 3 4,Ka bs (E5 bs)⟩from Ao ⟨y,rfl⟩)
   go_upto_region 2 with fail
   have l:=(show Ae O R 61 (row 315 s.cell)from Z.o.blk).cell (311+Y)
   rw[Ah Aa,s.K7 V]at l;have qY:(0:Int)<=(Y:Int):=Aa;have rq:(Y:Int)<4:=Aa;clear y1;have z: O.drew.cell? ⟨R,311+Y,none⟩=some (s.EU Y)/\Ae O.drew g 65 (BL (Ef bs 1:Int) (Ef bs 2:Int) (Dn bs 3 4:Int) X (E5 bs) W):=⟨l,n.o.drew⟩;refine wp_region_noPanic ?_;refine A8 [7,8] (fun w'=> w'.cell? ⟨R,311+Y,none⟩=some (s.EU Y)/\Ae w' g 65 (BL (Ef bs 1:Int) (Ef bs 2:Int) (Dn bs 3 4:Int) X (E5 bs) W)) Ap ?_;refine Ac 0 ?_;refine Ac 1 ?_;refine Ac 2 ?_;refine Ac 3 ?_;refine Ac 4 ?_;refine Ac 5 ?_;refine Ac 6 ?_;refine Bc 7 z ?_;refine Ba 8 (.agg (BL (Ef bs 1:Int) (Ef bs 2:Int) (Dn bs 3 4:Int) X (E5 bs) W)) z (hy:=?_) (h:=?_)
   . (intro w' qR;exact Az 65 _ rfl _ rfl qR.2 underlying65 rfl Ap)
   refine Ac 11 ?_;refine Ac 12 ?_;refine Aw 9 ?_;refine Bt ?_;intro K hK;go_simp;have hb:Below O.heap.size O (O.alloc (.cells (BL (Ef bs 1:Int) (Ef bs 2:Int) (Dn bs 3 4:Int) X (E5 bs) W) 65)).drew:=(DC).drew
   have NB:=zz (show Ae (O.alloc (.cells (BL (Ef bs 1:Int) (Ef bs 2:Int) (Dn bs 3 4:Int) X (E5 bs) W) 65)).drew O.heap.size 65 (BL (Ef bs 1:Int) (Ef bs 2:Int) (Dn bs 3 4:Int) X (E5 bs) W)from(Ae.fresh _ _ _).drew)
   have Z:=zz (Z.o.below hb);have J:=zz (J.o.trans (Keep.of_below (R:=R) (s:=s) hb));have q:=zz (Nd.ownsRow_below q.o hb);have n:=AU n hb;have l:=Z.o.blk.cell (311+Y);rw[Ah Aa,s.K7 V]at l;clear hb z
   generalize(O.alloc (.cells (BL (Ef bs 1:Int) (Ef bs 2:Int) (Dn bs 3 4:Int) X (E5 bs) W) 65)).drew=w3 at*
   have z: w3.cell? ⟨R,311+Y,none⟩=some (s.EU Y)/\Ae w3 g 65 (BL (Ef bs 1:Int) (Ef bs 2:Int) (Dn bs 3 4:Int) X (E5 bs) W):=⟨l,n.o⟩;refine hK.o _ _ z ?_;refine Aw 10 ?_;refine AX ?_ ?_
   . kernel_rfl
   intro K hK;rw[Ao Bb];obtain⟨xs,N,t⟩:=Z.o.box Y V;have b:=zz (Nat.le_trans Z.o.low (Nat.le_of_lt Z.o.blk.lt));refine Kl _ (.tmp 30) (.tmp 32) 58 rfl (base:=k) Ms.Qu rfl N rfl (news:=(BL (Ef bs 1:Int) (Ef bs 2:Int) (Dn bs 3 4:Int) X (E5 bs) W).toList) rfl (fun j u hu=>by rw[Addr.add_lit,Nat.zero_add,NB.o.cell j];simpa using hu) GR GX Aa b.o ?_;intro A2 c2 w4 T E G;have f:=Z.o.blk.grown E (fun e=>Z.o.own_ne V e.symm);have v4:=f.cell (311+Y);rw[Ah Aa,s.K7 V]at v4;have f4:=f.thaw (311+Y);have I:(Ka bs (E5 bs)).length=E5 bs:=Qs _ _
   have L:=Z.o.push V (m:=⟨Ef bs 1,(Ef bs 2:Int),Dn bs 3 4,Ka bs (E5 bs)⟩) (a:=X) (ca:=W) t N (by rw[I];exact Bf q.o (by have:=qU.o;omega)) (by rw[I];have:=qV.o;omega) (show w4.ownsRow k 65 4 (.slice A2 ((s.bX Y).length+1) c2) ((s.bX Y).length+1) (xs++Ms.Mg _ X W)from by unfold Ms.Mg;dsimp only;rw[I];exact T) E G
   have HP:=zz L;clear T E G f N t z L I;refine hK.o _ _ ?_;refine Ac 13 ?_;refine Aw 14 ?_;refine AX ?_ ?_
   . kernel_rfl
   intro K hK;go_simp;refine hK.o _ _ ?_;(try simp only[Rg.lp]);refine Bg Ap ?_ _;refine NoPanic.normal ?_;go_wp2_with fail;refine bodyPost_end (results_none rfl _ _ _) rfl ?_;exact⟨rfl,_,by rw[M.o];exact⟨A2,c2,rfl⟩,HP.o.1,J.o.trans HP.o.2⟩
  have M:=zz (show came v bs=none from Aj fun h=>hF h.2)
  have ru:(((Ef bs 2:Nat):Int)==v)=false:=by simp[hF]
  go_wp2_with fail;refine bodyPost_end (results_none rfl _ _ _) rfl ?_;exact⟨rfl,s,by rw[M.o];rfl,Z.o,J.o⟩
 rw[Aj y]at p;obtain⟨rfl,hb⟩:=p
 have M:=zz (show came v bs=none from Aj fun h=>y h.1)
 have Z:=zz (Z.o.below hb);have J:=zz (Keep.of_below (R:=R) (s:=s) hb);clear hb
 have qZ:(GU bs==0)=false:=by simp[y]
 go_upto_region 1 with fail
 have hb:Below U.heap.size U (U.alloc (.cells QV 65)):=DC;have Z:=zz (Z.o.below hb);have J:=zz (J.o.trans (Keep.of_below (R:=R) (s:=s) hb));clear hb
 generalize(U.alloc (.cells QV 65))=O at*
 go_wp2_with fail;refine bodyPost_end (results_none rfl _ _ _) rfl ?_;exact⟨rfl,s,by rw[M.o];rfl,Z.o,J.o⟩
end Cl
namespace Wr
open Go.ChangeShapes Go.WideShapes Go.ChangeAt Go.RowKit Mem Sm SumLaw
def hb(v:Int)(j:Nat):Nat:=(v/256 ^ j%256).toNat
def hb_lt(v:Int)(j:Nat):hb v j<256:=by unfold hb;omega
def Kj(v:Int)(j:Nat):((hb v j:Nat):Int)=v/256 ^ j%256:=by unfold hb;omega
def hi(v:Int):Nat->List Nat
 |0=>[]
 |j+1=>hb v j::hi v j
def Dl(v:Int):∀j,(hi v j).length=j
 |0=>rfl
 |j+1=>by simp[hi,Dl v j]
def Qc(v:Int):∀j,∀x∈hi v j,x<256
 |0,x,h=>by cases h
 |j+1,x,h=>by
  rcases List.mem_cons.1 h with rfl|h
  . exact hb_lt v j
  exact Qc v j x h
def Y5(v:Int)(j:Nat):v/2 ^ (8*j)=v/256 ^ j:=by
 rw[Int.pow_mul];rfl
def p8(base:Nat)(w w':World)(Z:List Nat)(e:Ending):Prop:=
 ∃A c,e=.returned (.slice A Z.length c)/\w'.ownsRow base 5 1 (.slice A Z.length c) Z.length (Br Z)/\Below base w w'
def nK(base:Nat)(w wr:World)(Z:List Nat)(v:Int)(n:Nat)(X Y:Value):Prop:=
 ∃(j:Nat) (P:List Nat) (A:Option Addr) (c:Nat),j<=n/\P++hi v j=hi v n/\Y=.int .i64 ((j:Int)-1)/\X=.slice A (Z++P).length c/\wr.ownsRow base 5 1 (.slice A (Z++P).length c) (Z++P).length (Br (Z++P))/\Below base w wr
def qi(base:Nat)(w wr:World)(v:Int)(n:Nat)(X Z Y:Value):Prop:=
 ∃(j:Nat) (A:Option Addr) (c:Nat),j<=n/\Z=.int .i64 ((n:Int)-j)/\X=.int .i64 (v/256 ^ j)/\Y=.slice A j c/\wr.ownsRow base 5 1 (.slice A j c) j (Br (hi v j))/\Below base w wr
def gP(v:Int)(j:Nat):v/256 ^ j/256=v/256 ^ (j+1):=by
 rw[Int.pow_succ,Int.ediv_ediv_of_nonneg (Int.pow_nonneg Aa)]
def Lj(v:Int)(n:Nat)(w:World)(z:n<=8):
  Calls prog 79 #[.int .i64 v,.int .i64 (n:Int)] w fun e w'=>p8 w.heap.size w w' (hi v n) e:=by
 go_in
 go_wp2_with fail
 go_loopw[0,1,5] (fun D L J wr=>qi w.heap.size w wr v n D L J) (fun _ i _ _=>(intOf i).toNat)
 .exact⟨0,none,0,Aa,Bq,Bq,rfl,World.ownsRow_nil _ _ _ _,Below.refl _ _⟩
 obtain⟨j,E,I,y,rfl,rfl,rfl,Z,Y⟩:=hrel;have O:=zz Z;have W:=Y.size;have C:=Kh Z;clear Z
 by_cases R:n=j
 .subst R;have T:(n:Int)-(n:Int)=0:=Aa;rw[T];clear T;go_wp2_with fail
  go_ret
  exact⟨E,I,by rw[Dl];rfl,by rw[Dl];exact O.o,Y⟩
 have A:IntKind.u8.wrap (v/256 ^ j)=((hb v j:Nat):Int):=by rw[Kj];simp[IntKind.wrap,IntKind.bits,IntKind.signed]
 have F:=zz (gP v j)
 generalize v/256 ^ j=q at*
 have H:(0:Int)<(n:Int)-(j:Int):=Aa;clear R
 go_wp2_with(at_builtin;refine Aq _ rfl (.tmp 12) (.tmp 13) 74 rfl (base:=wr.heap.size) Dm rfl (World.ownsRow_lit wr #[.int .u8 ((hb v j:Nat):Int)] 1 Nr GX rfl) rfl C ((Rd.Bu O.o).alloc Nr _) (EY _) GX Aa Bq ?_;intro G M B N X V)
 have U:=Below.grown (Y.alloc W (.cells #[.int .u8 ((hb v j:Nat):Int)] 5)) V Ec (fun g e=>by have e:some wr.heap.size=some g:=e;injection e with e;omega);refine⟨⟨j+1,G,M,Aa,?_,by rw[F.o],by rw[Nat.add_comm],by have h:=Bf X W;rw[Nat.add_comm 1 j]at h;exact h,U⟩,Ck⟩
 congr 1;omega
def vals(Z:List Int):List Nat:=(Z.map fun z=>hi z 8).flatten
def Lx(Z:List Int)(k:Nat)(Y:k<Z.length):vals (Z.take (k+1))=vals (Z.take k)++hi Z[k] 8:=by
 unfold vals
 rw[List.take_succ_eq_append_getElem Y,List.map_append,List.flatten_append]
 simp
def Jo(zs:List Int):(vals zs).length=8*zs.length:=by
 induction zs with
 |nil=>rfl
 |cons z zs ih=>
  have:vals (z::zs)=hi z 8++vals zs:=rfl;rw[this,List.length_append,Dl,ih,List.length_cons];omega
def KC(Y:List Int):∀x∈vals Y,x<256:=fun x h=>by
 unfold vals at h
 obtain⟨l,X,Z⟩:=List.mem_flatten.1 h;obtain⟨z,_,rfl⟩:=List.mem_map.1 X;exact Qc z 8 x Z
end Wr
namespace Sm
open Go.ChangeShapes Go.WideShapes Go.ChangeAt Go.RowKit Mem SumLaw
def dP(A:Option Addr)(c:Nat)(Y:List Nat)(B:Nat)(w:World)(D:B<=w.heap.size)(n:A=none->c=0)(qQ:Y.length<=c)(hc:Y.length<=140737488351232)(M:∀x∈Y,x<256)(p:Rd w B 1 A Y.length (Br Y)):
  Calls prog 99 #[.slice A Y.length c] w fun e w'=>PU w w' (sealed Y) e:=by
 have j:=zz p;have u:=zz M;clear p M
 go_in
 go_wp2_with fail;refine(LW A c Y B _ D Aa u.o j.o).mono ?_;rintro e w1 ⟨rfl,hb⟩;have N:=zz (j.o.below (hb.mono D));obtain⟨s,F,H⟩:=Q5 Y u.o;have HM:=zz F;rw[F];clear F;have X:=hb.size
 go_wp2_with(first
  |(refine O7 rfl _ _ 74 rfl Dm (Y.length+4) rfl rfl rfl Bq Aa GX X ?_;intro w2 Z I)
  |(refine Aq _ rfl (.tmp 11) (.tmp 12) 74 rfl Dm rfl Z rfl (fun h=>⟨by have:=n h;omega,n h⟩) (N.o.grown I (Nat.le_trans D X) Bq) (EY Y) GX Aa (Nat.le_trans X I.size) ?_;intro l f w3 G W O))
 have T:=Bh (Below.refl w.heap.size w) Nr hb;have U:=Below.grown T I X Bq;have J:=Below.grown U O U.size (fun g e=>(Z.lt g e).1);simp only[List.nil_append,Nat.zero_add]at W
 have r:Hid (pX w w3 (.slice l Y.length f) (Y.length+0) (Y++FU s 0)):=zz ⟨l,f,rfl,by simp[FU],Bf (by rw[show FU s 0=[]from rfl,List.append_nil];exact W) Aa⟩
 clear Z W I O G X hb T U N
 go_loopw[3,4,14] (fun t v i wr=>∃k:Nat,k<=4/\i=.int .i64 k/\t=.int .i64 ((s/256 ^ k:Nat):Int)/\pX w wr v (Y.length+k) (Y++FU s k)/\Below w.heap.size w wr) (fun _ _ i _=>4-(intOf i).toNat)
 .exact⟨0,Aa,rfl,Bq,r.o,J⟩
 clear r J;obtain⟨k,hk,rfl,rfl,⟨A1,c1,rfl,R,Z⟩,hb⟩:=hrel;have C:=zz R;clear R;have X:=hb.size;have m:=zz (UI s k)
 have HD:=zz (show s/256 ^ (k+1)=s/256 ^ k/256 by rw[Nat.pow_succ,Nat.div_div_eq_div_mul])
 have b:s/256 ^ k<4294967296:=Nat.lt_of_le_of_lt (Nat.div_le_self _ _) H
 generalize hq:s/256 ^ k=q at*
 have HQ:=zz hq;clear hq
 by_cases z:k<4
 .have e1:IntKind.u8.wrap (q:Int)=((q%256:Nat):Int):=by simp[IntKind.wrap,IntKind.bits,IntKind.signed]
  go_wp2_with(at_builtin;refine Aq _ rfl (.tmp 16) (.tmp 19) 74 rfl Dm rfl (Z.alloc _) rfl Bq (Ff _ _ _) GR GX Aa Ec ?_;intro A2 c2 w4 d V E)
  have y:=Below.grown (hb.alloc X (.cells #[.int .u8 ((q:Int)%256)] 5)) E Ec (fun g e=>(Z.lt g e).1);refine⟨⟨k+1,Aa,BG,by rw[HD.o];rfl,⟨A2,c2,by rw[Nat.add_assoc],by rw[m.o,←List.append_assoc,List.length_append,←C.o];rfl,?_⟩,y⟩,Ck⟩;rw[m.o,←List.append_assoc,Ed,←Nat.add_assoc];exact V
 obtain rfl:k=4:=Aa;clear z
 have L:=zz (show sealed Y=Y++FU s 4 by unfold sealed;rw[HM.o,Int.toNat_natCast])
 go_wp2_with fail
 go_ret
 exact⟨A1,c1,by rw[L.o,←C.o];rfl,by rw[L.o,←C.o];exact Z,hb⟩
end Sm
namespace Wr
open Go.ChangeShapes Go.WideShapes Go.ChangeAt Go.RowKit Mem Sm SumLaw Go.Proofs.YtjobajeggllmiaaGreat.Ms
def Zl(A:Option Addr)(c:Nat)(Z:List Nat)(v:Int)(n:Nat)(base:Nat)(w:World)(l:n<=8)(k:Z.length<=140737488355000)(V:base<=w.heap.size)(D:w.ownsRow base 5 1 (.slice A Z.length c) Z.length (Br Z)):
  Calls prog 98 #[.slice A Z.length c,.int .i64 v,.int .i64 (n:Int)] w fun e w'=>p8 base w w' (Z++hi v n) e:=by
 have z:=zz D;clear D
 go_in
 go_wp2_with fail
 go_loopw[0,7] (fun s y wr=>nK base w wr Z v n s y) (fun _ i _=>(intOf i+1).toNat)
 .exact⟨n,[],A,c,Nat.le_refl _,rfl,rfl,by rw[List.append_nil],by rw[List.append_nil];exact z.o,Below.refl _ _⟩
 obtain⟨j,P,t,x,f,L,rfl,rfl,W,X⟩:=hrel;have F:=zz L;have R:=zz W;have M:=X.size
 have T:(Z++P).length+j=Z.length+n:=by
  have:=congrArg List.length L;simp only[List.length_append,Dl]at this ⊢;omega
 obtain⟨m,O⟩:=AJ ((Z++P).length);rw[O]at R T ⊢;have N:=zz O;clear L W O
 by_cases H:j=0
 .subst H
  have E:=zz (show Z++hi v n=Z++P by rw[←F.o];simp[hi])
  go_wp2_with fail
  go_ret
  exact⟨t,x,by rw[E.o,N.o];rfl,by rw[E.o,N.o];exact R.o,X⟩
 obtain⟨i,rfl⟩:∃i,j=i+1:=⟨j-1,Aa⟩;have G:((i+1:Nat):Int)-1=(i:Int):=Aa;rw[G];clear G H;have q:(8*(i:Int)).toNat=8*i:=Aa
 have p:IntKind.u8.wrap (v/2 ^ (8*i))=((hb v i:Nat):Int):=by rw[Y5,Kj];simp[IntKind.wrap,IntKind.bits,IntKind.signed]
 go_wp2_with(at_builtin;refine Aq _ rfl (.tmp 14) (.tmp 21) 74 rfl Dm rfl (R.o.alloc _) rfl Bq (Ff _ _ _) GR GX Aa Ec ?_;intro u B r C U J)
 have I:=Below.grown (X.alloc (Nat.le_trans V M) (.cells #[.int .u8 ((hb v i:Nat):Int)] 5)) J Ec (fun g e=>(R.o.lt g e).1)
 have Y:(Z++(P++[hb v i])).length=m+1:=by rw[←List.append_assoc,List.length_append,N.o];rfl
 refine⟨⟨i,P++[hb v i],u,B,Aa,by rw[←F.o,List.append_assoc];rfl,rfl,by rw[Y],?_,I⟩,by simp[intOf]⟩;rw[Y,←List.append_assoc,Ed];exact U
def front(k f n:Int)(l:Nat):List Nat:=[87,hb k 0,hb f 0]++hi n 4++[l%256]
def IB(k f n:Int)(l:Nat):(front k f n l).length=8:=by simp[front,Dl]
def Wy(k f n:Int)(l:Nat):∀x∈front k f n l,x<256:=fun x h=>by
 unfold front at h
 rcases List.mem_append.1 h with h|h
 .rcases List.mem_append.1 h with h|h
  .simp at h
   have:=hb_lt k 0;have:=hb_lt f 0;omega
  exact Qc n 4 x h
 simp at h;omega
def body(k f n:Int)(Z:List Int)(j:Nat):List Nat:=front k f n Z.length++vals (Z.take j)
def Gq(k f n:Int)(Z:List Int)(j:Nat)(Y:j<=Z.length):(body k f n Z j).length=8+8*j:=by
 rw[body,List.length_append,IB,Jo,List.length_take,Nat.min_eq_left Y]
def MV(k f n:Int)(Z:List Int)(j:Nat):∀x∈body k f n Z j,x<256:=fun x h=>by
 rcases List.mem_append.1 h with h|h
 . exact Wy _ _ _ _ x h
 exact KC _ x h
def enc(k f n:Int)(Z:List Int):List Nat:=sealed (body k f n Z Z.length)
def Zr(w w':World)(k f n:Int)(Z:List Int)(e:Ending):Prop:=
 (wrong k f n Z.length≠0/\e=.returned (.tuple #[.slice none 0 0,.int .i64 (wrong k f n Z.length)])/\Below w.heap.size w w')\/
 (wrong k f n Z.length=0/\∃A c,e=.returned (.tuple #[.slice A (enc k f n Z).length c,.int .i64 0])/\w'.ownsRow w.heap.size 5 1 (.slice A (enc k f n Z).length c) (enc k f n Z).length (Br (enc k f n Z))/\Below w.heap.size w w')
def JF{k f n:Int}{l:Nat}(h:wrong k f n l=0):l<=24:=by
 unfold wrong at h
 split at h
 . omega
 split at h
 . omega
 split at h<;>omega
def fU(base:Nat)(w wr:World)(k f n:Int)(Z:List Int)(Y X:Value):Prop:=
 ∃(j:Nat) (A:Option Addr) (c:Nat),j<=Z.length/\X=.int .i64 (j:Int)/\Y=.slice A (body k f n Z j).length c/\wr.ownsRow base 5 1 (.slice A (body k f n Z j).length c) (body k f n Z j).length (Br (body k f n Z j))/\Below base w wr
def Xp(k f n:Int)(A:Option Addr)(c:Nat)(Z:List Int)(B:Nat)(w:World)(hB:B<=w.heap.size)(hc:Z.length*8<=140737488351232)(hr:Rd w B 1 A Z.length (AQ Z)):
  Calls prog 67 #[Jg k f n A Z.length c] w fun e w'=>Zr w w' k f n Z e:=by
 have qU:=zz hr;have b0:Ae (w.alloc (.cells (AR k f n A Z.length c) 65)) w.heap.size 65 (AR k f n A Z.length c):=Ae.new rfl;have t:Below w.heap.size w (w.alloc (.cells (AR k f n A Z.length c) 65)):=DC;have N:=zz t;have l:=zz b0;clear hr b0 t;have q:=Lu k f n A Z.length c
 unfold Jg at*
 unfold AR at l N
 cases hw:decide (wrong k f n Z.length=0)
 .have Y:wrong k f n Z.length≠0:=by simpa using hw
  have HW:=zz Y;obtain⟨e0,C⟩:=AJ (wrong k f n Z.length);have HE:=zz C;rw[C]at q Y
  have qY:(e0 !=0)=true:=by simpa using Y
  clear hw Y C
  go_in
  go_wp2_with(go_at_call 97;refine(q _ Aa).mono ?_;rintro e w1 ⟨rfl,U⟩)
  all_goals
   go_ret2
   exact .inl ⟨HW.o,by rw[HE.o];rfl,Bh N.o Nr U⟩
 have Y:wrong k f n Z.length=0:=by simpa using hw
 have hl:=JF Y;have HW:=zz Y;rw[Y]at q;clear hw Y
 have e4:IntKind.u8.wrap k=((hb k 0:Nat):Int):=by rw[Kj];simp[IntKind.wrap,IntKind.bits,IntKind.signed]
 have e5:IntKind.u8.wrap f=((hb f 0:Nat):Int):=by rw[Kj];simp[IntKind.wrap,IntKind.bits,IntKind.signed]
 have s:=zz (show([87,hb k 0,hb f 0]++hi n 4).length=7 by simp[Dl])
 have e6:IntKind.u8.wrap (Z.length:Int)=((Z.length%256:Nat):Int):=by simp[IntKind.wrap,IntKind.bits,IntKind.signed]
 go_in
 go_wp2_with(first
  |(go_at_call 97;refine(q _ Aa).mono ?_;rintro e w1 ⟨rfl,U⟩;have F:=CU N U;have R:=AU l U;have qR:=Nat.lt_of_lt_of_le l.o.lt U.size;have x0:=R.o.cell 0;have x1:=R.o.cell 1;have x2:=(R.o.alloc (.cells #[.int .u8 87,.int .u8 ((hb k 0:Nat):Int),.int .u8 ((hb f 0:Nat):Int)] 5)).cell 2;simp only[List.getElem?_toArray,List.getElem?_cons_zero,List.getElem?_cons_succ]at x0 x1 x2;clear U)
  |(go_at_call 98;refine(Zl (some ⟨w1.heap.size,0,none⟩) 3 [87,hb k 0,hb f 0] n 4 (w.heap.size+1) _ Aa Bq Ec (World.ownsRow_lit w1 #[.int .u8 87,.int .u8 ((hb k 0:Nat):Int),.int .u8 ((hb f 0:Nat):Int)] 3 qR GX rfl)).mono ?_;rintro e w2 ⟨A2,c2,rfl,W,y⟩;rw[s.o]at W ⊢;have E:=zz ((F.o.alloc F.o.size _).trans (y.mono Aa));have L:=zz ((R.o.alloc _).below y Aa);have O:=zz W;have y3:=L.o.cell 3;simp only[List.getElem?_toArray,List.getElem?_cons_zero,List.getElem?_cons_succ]at y3;have ru:w.heap.size+1<=w2.heap.size:=L.o.lt;clear y W x2)
  |(refine Aq _ rfl (.tmp 23) (.tmp 28) 74 rfl Dm rfl (O.o.alloc _) rfl Bq (Ff _ _ _) GR GX Aa Ec ?_;intro A3 c3 w3 qZ T D;have r:=zz T;have qV:=((Below.refl w2.heap.size w2).alloc Nr (.cells #[.int .u8 ((Z.length%256:Nat):Int)] 5));have x:=zz (Below.grown (E.o.alloc E.o.size (.cells #[.int .u8 ((Z.length%256:Nat):Int)] 5)) D Ec (fun g e=>by have:=(O.o.lt g e).1;omega));have G:=zz ((L.o.alloc (.cells #[.int .u8 ((Z.length%256:Nat):Int)] 5)).grown D (fun e=>by have:=(O.o.lt _ e.symm).1;omega));have z3:=G.o.cell 3;simp only[List.getElem?_toArray,List.getElem?_cons_zero,List.getElem?_cons_succ]at z3;clear T D qV))
 have HF:Hid (w3.ownsRow (w.heap.size+1) 5 1 (.slice A3 8 c3) 8 (Br (body k f n Z 0))):=zz (by
  rw[body,front,List.take_zero,show vals []=[]from rfl,List.append_nil,Ed];exact r.o)
 have p:=zz (Gq k f n Z 0 Aa);have d:=zz (qU.o.below (x.o.mono hB));clear x0 x1 y3 z3 r O L R l s E F N q;have qX:w.heap.size<w3.heap.size:=G.o.lt;clear G
 go_loopw[5,33] (fun sb si wr=>fU (w.heap.size+1) w3 wr k f n Z sb si) (fun _ i _=>Z.length-(intOf i).toNat)
 .exact⟨0,A3,c3,Aa,rfl,by rw[p.o],by rw[p.o];exact HF.o,Below.refl _ _⟩
 clear HF;obtain⟨j,A4,c4,hj,rfl,rfl,I,V⟩:=hrel;have M:=zz I;have qW:=Nat.lt_of_lt_of_le qX V.size;have m:=zz (Gq k f n Z j hj);clear I
 by_cases J:j<Z.length
 .have hx:=d.o.below (V.mono (by omega:B<=w.heap.size+1));obtain⟨b,o,u,rfl,rq,hu,qQ⟩:=hx.at J;rw[DJ Z j J]at hu;obtain rfl:=Option.some.inj hu;have HV:=zz (Lx Z j J)
  generalize Z[j]=z at*
  clear hu hx
  go_wp2_with(go_at_call 98;refine(Zl A4 c4 (body k f n Z j) z 8 (w.heap.size+1) _ Aa (by rw[m.o];omega) qW M.o).mono ?_;rintro e w5 ⟨A5,c5,rfl,X,H⟩)
  have v:body k f n Z j++hi z 8=body k f n Z (j+1):=by rw[body,body,List.append_assoc,HV.o]
  rw[v]at X;refine⟨⟨j+1,A5,c5,Aa,BG,by rw[←v,List.length_append],X,V.trans H⟩,Ck⟩
 obtain rfl:j=Z.length:=Aa;clear J
 have HX:=zz (show enc k f n Z=sealed (body k f n Z Z.length)from rfl)
 go_wp2_with(go_at_call 99;refine(dP A4 c4 (body k f n Z Z.length) _ _ Nr (fun h=>(Kh M.o h).2) (BU M.o) (by rw[m.o];omega) (MV _ _ _ _ _) (Rd.Bu M.o)).mono ?_;rintro e w5 ⟨A5,c5,rfl,X,H⟩)
 go_ret2
 exact .inr ⟨HW.o,A5,c5,rfl,Bf X Aa,x.o.trans ((V.mono Aa).trans (H.mono Aa))⟩
def Rz(k f n:Int)(A:Option Addr)(c:Nat)(Z:List Int)(B:Nat)(w:World)(hB:B<=w.heap.size)(hc:Z.length*8<=140737488351232)(hr:Rd w B 1 A Z.length (AQ Z)):
  Calls prog 49 #[Jg k f n A Z.length c] w fun e w'=>Zr w w' k f n Z e:=by
 have rC:=zz hr;have b0:Ae (w.alloc (.cells (AR k f n A Z.length c) 65)) w.heap.size 65 (AR k f n A Z.length c):=Ae.new rfl;have qQ:Below w.heap.size w (w.alloc (.cells (AR k f n A Z.length c) 65)):=DC;have I:=zz qQ;have HK:=zz b0;clear hr b0 qQ;have cR:=Nu k f n A Z.length c
 unfold Jg at*
 unfold AR at HK I
 cases hw:decide (wrong k f n Z.length=0)
 .have X:wrong k f n Z.length≠0:=by simpa using hw
  have HW:=zz X;obtain⟨e0,s⟩:=AJ (wrong k f n Z.length);have HE:=zz s;rw[s]at cR X
  have rM:(e0 !=0)=true:=by simpa using X
  clear hw X s
  go_in
  go_wp2_with(go_at_call 78;refine(cR _ Aa).mono ?_;rintro e w1 ⟨rfl,U⟩)
  all_goals
   go_ret2
   exact .inl ⟨HW.o,by rw[HE.o];rfl,Bh I.o Nr U⟩
 have X:wrong k f n Z.length=0:=by simpa using hw
 have hl:=JF X;have HW:=zz X;rw[X]at cR;clear hw X
 have e4:IntKind.u8.wrap k=((hb k 0:Nat):Int):=by rw[Kj];simp[IntKind.wrap,IntKind.bits,IntKind.signed]
 have e5:IntKind.u8.wrap f=((hb f 0:Nat):Int):=by rw[Kj];simp[IntKind.wrap,IntKind.bits,IntKind.signed]
 have rE:=zz (show([87,hb k 0,hb f 0]++hi n 4).length=7 by simp[Dl])
 have e6:IntKind.u8.wrap (Z.length:Int)=((Z.length%256:Nat):Int):=by simp[IntKind.wrap,IntKind.bits,IntKind.signed]
 go_in
 go_wp2_with(first
  |(go_at_call 78;refine(cR _ Aa).mono ?_;rintro e w1 ⟨rfl,U⟩;have x:=CU I U;have R:=AU HK U;have ru:=Nat.lt_of_lt_of_le HK.o.lt U.size;have x0:=R.o.cell 0;have x1:=R.o.cell 1;have x2:=(R.o.alloc (.cells #[.int .u8 87,.int .u8 ((hb k 0:Nat):Int),.int .u8 ((hb f 0:Nat):Int)] 5)).cell 2;simp only[List.getElem?_toArray,List.getElem?_cons_zero,List.getElem?_cons_succ]at x0 x1 x2;clear U)
  |(go_at_call 79;refine(Lj n 4 _ Aa).mono ?_;rintro e w2 ⟨A2,c2,rfl,O,L⟩;have G:=zz (ownsRow_below (World.ownsRow_lit (e:=5) (size:=1) (base:=w.heap.size+1) w1 #[.int .u8 87,.int .u8 ((hb k 0:Nat):Int),.int .u8 ((hb f 0:Nat):Int)] 3 ru GX rfl) L);have qU:=zz (Bh (x.o.alloc x.o.size _) Nr L);have q:=zz ((R.o.alloc _).below L Ec);have J:=zz O;have rD:w.heap.size+1<=w2.heap.size:=q.o.lt;have rR:=zz L.size;rw[Dl]at J ⊢;clear L O x2)
  |(refine Aq _ rfl (.tmp 20) (.tmp 23) 74 rfl Dm rfl G.o rfl (by intro h;have:=Kh J.o h;omega) (Rd.Bu J.o) (EY _) GX Aa rD ?_;intro A6 c6 w6 rq M r;have D:=zz M;have v:=zz (Below.grown qU.o r Aa (fun g e=>by have:=(G.o.lt g e).1;omega));have F:=zz (q.o.grown r (fun e=>by have:=(G.o.lt _ e.symm).1;omega));have y3:=F.o.cell 3;simp only[List.getElem?_toArray,List.getElem?_cons_zero,List.getElem?_cons_succ]at y3;have rU:w.heap.size+1<=w6.heap.size:=F.o.lt;clear M r rq)
  |(refine Aq _ rfl (.tmp 25) (.tmp 30) 74 rfl Dm rfl (D.o.alloc _) rfl Bq (Ff _ _ _) GR GX Aa Ec ?_;intro A3 c3 w3 rP T t;have qV:=zz T;have m:=zz (Below.grown (v.o.alloc v.o.size (.cells #[.int .u8 ((Z.length%256:Nat):Int)] 5)) t Ec (fun g e=>by have:=(D.o.lt g e).1;omega));have y:=zz ((F.o.alloc (.cells #[.int .u8 ((Z.length%256:Nat):Int)] 5)).grown t (fun e=>by have:=(D.o.lt _ e.symm).1;omega));have z3:=y.o.cell 3;simp only[List.getElem?_toArray,List.getElem?_cons_zero,List.getElem?_cons_succ]at z3;clear T t))
 have HF:Hid (w3.ownsRow (w.heap.size+1) 5 1 (.slice A3 8 c3) 8 (Br (body k f n Z 0))):=zz (by
  rw[body,front,List.take_zero,show vals []=[]from rfl,List.append_nil,Ed];exact qV.o)
 have qW:=zz (Gq k f n Z 0 Aa);have qY:=zz (rC.o.below (m.o.mono hB));clear x0 x1 y3 z3 qV J D G q R F HK rE qU v x I cR;have rH:w.heap.size<w3.heap.size:=y.o.lt;clear y
 go_loopw[5,35] (fun sb si wr=>fU (w.heap.size+1) w3 wr k f n Z sb si) (fun _ i _=>Z.length-(intOf i).toNat)
 .exact⟨0,A3,c3,Aa,rfl,by rw[qW.o],by rw[qW.o];exact HF.o,Below.refl _ _⟩
 clear HF;obtain⟨j,A4,c4,hj,rfl,rfl,C,W⟩:=hrel;have H:=zz C;have rG:=Nat.lt_of_lt_of_le rH W.size;have p:=zz (Gq k f n Z j hj);clear C
 by_cases E:j<Z.length
 .have hx:=qY.o.below (W.mono (by omega:B<=w.heap.size+1));obtain⟨b,o,u,rfl,rT,hu,qZ⟩:=hx.at E;rw[DJ Z j E]at hu;obtain rfl:=Option.some.inj hu;have HV:=zz (Lx Z j E)
  generalize Z[j]=z at*
  clear hu hx
  go_wp2_with(first
   |(go_at_call 79;refine(Lj z 8 _ Aa).mono ?_;rintro e w5 ⟨A5,c5,rfl,Y,V⟩;rw[Dl]at Y ⊢;have qR:=zz Y;have qX:=GJ H V;have rF:=zz V;have rO:=V.size;clear Y V)
   |(refine Aq _ rfl (.tmp 39) (.tmp 41) 74 rfl Dm rfl qX.o rfl (by intro h;have:=Kh qR.o h;omega) (Rd.Bu qR.o) (EY _) (by unfold maxLen;rw[p.o];omega) (by rw[p.o];omega) Aa ?_;intro A7 c7 w7 rQ N rJ))
  have rA:=Below.grown (rF.o.mono (show w.heap.size+1<=wr.heap.size from rG)) rJ Aa (fun g e=>(qX.o.lt g e).1)
  have d:body k f n Z j++hi z 8=body k f n Z (j+1):=by rw[body,body,List.append_assoc,HV.o]
  have l:(body k f n Z j).length+8=(body k f n Z (j+1)).length:=by rw[←d,List.length_append,Dl]
  rw[←Ed,d,l]at N;refine⟨⟨j+1,A7,c7,Aa,BG,by rw[l],N,W.trans rA⟩,Ck⟩
 obtain rfl:j=Z.length:=Aa;clear E
 have HX:=zz (show enc k f n Z=sealed (body k f n Z Z.length)from rfl)
 go_wp2_with(go_at_call 80;refine(OZ A4 c4 (body k f n Z Z.length) _ _ Nr (fun h=>(Kh H.o h).2) (BU H.o) (by rw[p.o];omega) (MV _ _ _ _ _) (Rd.Bu H.o)).mono ?_;rintro e w5 ⟨A5,c5,rfl,Y,V⟩)
 go_ret2
 exact .inr ⟨HW.o,A5,c5,rfl,Bf Y Aa,m.o.trans ((W.mono Aa).trans (V.mono Aa))⟩
end Wr
namespace Cl
open Go.ChangeShapes Go.WideShapes Go.ChangeAt Go.RowKit Mem Rws Nd
def Bl.boxes(s:Bl)(bA:Nat->Option Addr)(g:Nat->List Cw)(bC:Nat->Nat):Bl:={ s with bA:=bA,bX:=g,bC:=bC }
def Came.boxes{s Y:Bl}{Z:Nat}{o:Option Cw}(h:Came s Y Z o):∃X bC,Y=s.boxes X (setAt s.bX Z (s.bX Z++o.toList)) bC:=by
 cases o with
 |none=>
  refine⟨s.bA,s.bC,?_⟩
  have e:setAt s.bX Z (s.bX Z++(none:Option Cw).toList)=s.bX:=funext fun i=>by
   unfold setAt
   split
   . rename_i h;subst h;simp
   rfl
  rw[e];exact h
 |some m=>
  obtain⟨A,c,rfl⟩:=h;exact⟨_,_,rfl⟩
def Rk(g:Nat->List Cw)(f:Int)(l:List Cw)(k i:Nat):List Cw:=if i<k/\(i:Int)≠f then g i++l else g i
def U1(g:Nat->List Cw)(f:Int)(l:List Cw):Rk g f l 0=g:=funext fun i=>Aj Aa
def kX(g:Nat->List Cw)(f:Int)(l:List Cw)(k:Nat)(h:(k:Int)=f):Rk g f l (k+1)=Rk g f l k:=funext fun i=>by
 unfold Rk
 by_cases e:i=k
 . subst e;rw[Aj Aa,Aj Aa]
 by_cases hi:i<k/\(i:Int)≠f
 . rw[Ao hi,Ao ⟨Aa,hi.2⟩]
 rw[Aj hi,Aj Aa]
def dV(g:Nat->List Cw)(f:Int)(l:List Cw)(k:Nat):Rk g f l k k=g k:=Aj Aa
def jb(g:Nat->List Cw)(f:Int)(l:List Cw)(k:Nat)(h:¬(k:Int)=f):setAt (Rk g f l k) k (Rk g f l k k++l)=Rk g f l (k+1):=funext fun i=>by
 by_cases e:i=k
 .subst e;rw[AY,dV];exact(Ao ⟨Aa,h⟩).symm
 rw[Bj _ _ e]
 unfold Rk
 by_cases hi:i<k/\(i:Int)≠f
 . rw[Ao hi,Ao ⟨Aa,hi.2⟩]
 rw[Aj hi,Aj Aa]
def Ur(k f n:Int)(Z:List Int):(Wr.enc k f n Z).length=12+8*Z.length:=by
 unfold Wr.enc
 rw[show Sm.sealed (Wr.body k f n Z Z.length)=Wr.body k f n Z Z.length++Sm.FU _ 4 from rfl,List.length_append,Sm.Rs,Wr.Gq _ _ _ _ _ Nr]
 omega
def SX(k f n:Int)(Z:List Int):∀x∈Wr.enc k f n Z,x<256:=fun x h=>by
 unfold Wr.enc at h
 rw[show Sm.sealed (Wr.body k f n Z Z.length)=Wr.body k f n Z Z.length++Sm.FU _ 4 from rfl]at h
 rcases List.mem_append.1 h with h|h
 . exact Wr.MV _ _ _ _ _ x h
 unfold Sm.FU at h
 obtain⟨i,_,rfl⟩:=List.mem_map.1 h;omega
def Keep.kept{w w':World}{R:Nat}{s Z:Bl}(h:Keep w w' R s Z){b:Nat}{t:TypeId}{cs:Array Value}(hb:Ae w b t cs)(X:b≠R)(Y:∀i,i<4->s.own i≠some b):Ae w' b t cs:=(h.block b hb.lt X Y).trans hb
def Keep.owned{w w':World}{R H:Nat}{s E:Bl}(h:Keep w w' R s E)(N:Cj w R H s){base:Nat}{e:TypeId}{size n:Nat}{v:Value}{xs:List Value}(W:w.ownsRow base e size v n xs)(B:e≠65)(C:e≠61):w'.ownsRow base e size v n xs:=by
 obtain⟨J,W|⟨b,T,X,D,hb,Y,G⟩⟩:=W
 . exact⟨J,.inl W⟩
 have U:b<w.heap.size:=(Array.getElem?_eq_some_iff.1 Y).1;refine⟨J,.inr ⟨b,T,X,D,hb,(h.block b U (fun e=>?_) (fun i hi e=>?_)).trans Y,G⟩⟩
 .subst e;have:=N.blk
  unfold Ae at this
  rw[this]at Y
  injection Y with Y
  injection Y with _ L _
  exact C L.symm
 obtain⟨r,hy,_⟩:=N.box i hi
 obtain⟨I,t,L,u⟩:=Ms.Fb hy (show 65≠3 by decide) b e
 obtain⟨F,⟨A,_⟩|⟨z,O,M,V,x,Z,_⟩⟩:=hy
 .unfold Bl.own Bl.EU at e
  rw[A]at e;cases e
 unfold Bl.own Bl.EU at e
 rw[V]at e
 injection e with e
 have e:z=b:=e;rw[e,Y]at Z
 injection Z with Z
 injection Z with _ y _
 exact B y
open Classical in
noncomputable def J5(g:Nat->List Cw)(k f n:Int)(Z:List Int):Nat->List Cw:=if Ms.wrong k f n Z.length≠0 then g else Rk g f (came f (Wr.enc k f n Z)).toList 4
def iX(R u:Nat)(s:Bl)(k f n:Int)(A:Option Addr)(c:Nat)(Z:List Int)(B:Nat)(w:World)(h:Cj w R u s)(M:∀i,i<4->((s.bX i).length+1)*48<=140737488351232)(hB:B<=w.heap.size)(hc:Z.length*8<=140737488351232)(hr:Rd w B 1 A Z.length (Ms.AQ Z)):
  Calls prog 35 #[.pointer (some ⟨R,0,none⟩),Ms.Jg k f n A Z.length c] w fun e w'=>e=.returned (.tuple #[])/\∃O T,Cj w' R u (s.boxes O (J5 s.bX k f n Z) T)/\Keep w w' R s (s.boxes O (J5 s.bX k f n Z) T):=by
 have hb:Below w.heap.size w (w.alloc (.cells (Ms.AR k f n A Z.length c) 65)):=DC
 have J:=zz (show Ae (w.alloc (.cells (Ms.AR k f n A Z.length c) 65)) w.heap.size 65 (Ms.AR k f n A Z.length c)from Ae.fresh _ _ _)
 have X:=zz (h.below hb);have C:=zz (Keep.of_below (R:=R) (s:=s) hb);have HR:=zz (hr.below (hb.mono hB));have qX:=hb.size;have HL:=zz M;have m:=zz h
 have d:=zz (show R<w.heap.size from h.blk.lt)
 clear h hr hb M
 unfold Ms.Jg
 go_in
 go_upto_region 1 with fail
 rw[show((BL k f n A Z.length c):Array Value)=Ms.AR k f n A Z.length c from rfl]
 generalize(w.alloc (.cells (Ms.AR k f n A Z.length c) 65))=w1 at*
 obtain⟨b,G⟩:=AJ (w.heap.size);rw[G]at J ⊢;have x:=zz G;clear G
 go_wp2_with(refine Ad rfl 65 _ rfl b rfl J.o _ underlying65 rfl Ap ?_)
 refine(Wr.Xp k f n A c Z B w1 Aa hc HR.o).mono ?_;intro e w2 he
 unfold Wr.Zr at he
 have t:=zz (show b≠R/\∀i,i<4->s.own i≠some b from⟨fun e=>by have:=d.o;have:=x.o;omega,fun i hi e=>by have:=(m.o.Ju hi e).2;have:=x.o;omega⟩)
 rcases he with⟨F,rfl,hb⟩|⟨F,AE,cE,rfl,N,hb⟩
 .have W:=zz (show J5 s.bX k f n Z=s.bX from Ao F)
  have qU:(Ms.wrong k f n Z.length !=0)=true:=by simp[F]
  have X:=zz (X.o.below hb);have C:=zz (C.o.trans (Keep.of_below (R:=R) (s:=s) hb));clear hb F;go_wp2_with fail;refine bodyPost_ret (results_none rfl _ _ _) rfl ?_;exact⟨rfl,s.bA,s.bC,by rw[W.o];exact X.o,by rw[W.o];exact C.o⟩
 have W:=zz (show J5 s.bX k f n Z=Rk s.bX f (came f (Wr.enc k f n Z)).toList 4 from Aj (fun h=>h F))
 have X:=zz (X.o.below hb);have C:=zz (C.o.trans (Keep.of_below (R:=R) (s:=s) hb));have J:=AU J hb;have g:=zz N;have HZ:=zz (Wr.JF F);clear hb F N;go_wp2_with fail
 go_loopw[14] (fun i wr=>∃j:Nat,j<=4/\i=.int .i64 j/\∃O T,Cj wr R u (s.boxes O (Rk s.bX f (came f (Wr.enc k f n Z)).toList j) T)/\Keep w2 wr R s (s.boxes O (Rk s.bX f (came f (Wr.enc k f n Z)).toList j) T)) (fun i _=>4-(intOf i).toNat)
 .exact⟨0,Aa,rfl,s.bA,s.bC,by rw[U1];exact X.o,by rw[U1];exact Keep.refl _ _ _⟩
 obtain⟨j,hj,rfl,O,T,U,Y⟩:=hrel;have L:=zz U;have I:=zz Y;have J:=zz (Y.kept J.o t.o.1 t.o.2);have g:=zz (Y.owned X.o g.o El El);clear U Y;have y1:=J.o.cell 1;simp only[Ms.AR,List.getElem?_toArray,List.getElem?_cons_zero,List.getElem?_cons_succ]at y1
 by_cases E:j<4
 .have qV:(0:Int)<=(j:Int):=Aa;have qW:(j:Int)<4:=Aa
  by_cases p:(j:Int)=f
  .have qR:((j:Int)!=f)=false:=by simp[p]
   have y:=zz (kX s.bX f (came f (Wr.enc k f n Z)).toList j p);go_wp2_with fail;exact⟨⟨j+1,Aa,BG,O,T,by rw[y.o];exact L.o,by rw[y.o];exact I.o⟩,Ck⟩
  have qR:((j:Int)!=f)=true:=by simp[p]
  have y:=zz (jb s.bX f (came f (Wr.enc k f n Z)).toList j p);go_wp2_with fail;obtain⟨A0,c0,e0,l,qQ,v,_,q⟩:=Ip g.o
  obtain⟨rfl,rfl⟩:AE=A0/\cE=c0:=by injection e0 with e1 e2 e3;exact⟨e1,e3⟩
  refine(OW R u (s.boxes O (Rk s.bX f (came f (Wr.enc k f n Z)).toList j) T) f j E AE cE (Wr.enc k f n Z) wr.heap.size wr L.o (by show((Rk s.bX f _ j j).length+1)*48<=_;rw[dV];exact HL.o j E) Nr (fun h=>(v h).2) l qQ (by rw[Ur];have:=HZ.o;omega) (SX k f n Z) q).mono ?_
  rintro e w4 ⟨rfl,s',V,U,Y⟩;obtain⟨H,D,rfl⟩:=V.boxes
  have z:=zz (show Cj w4 R u (s.boxes H (setAt (Rk s.bX f (came f (Wr.enc k f n Z)).toList j) j (Rk s.bX f (came f (Wr.enc k f n Z)).toList j j++(came f (Wr.enc k f n Z)).toList)) D)from U)
  have r:=zz (show Keep w2 w4 R s (s.boxes H (setAt (Rk s.bX f (came f (Wr.enc k f n Z)).toList j) j (Rk s.bX f (came f (Wr.enc k f n Z)).toList j j++(came f (Wr.enc k f n Z)).toList)) D)from I.o.trans Y)
  clear U Y V q e0 v;go_wp2_with fail;exact⟨⟨j+1,Aa,BG,H,D,by rw[←y.o];exact z.o,by rw[←y.o];exact r.o⟩,Ck⟩
 obtain rfl:j=4:=Aa;clear E;go_wp2_with fail;refine bodyPost_end (results_none rfl _ _ _) rfl ?_;exact⟨rfl,O,T,by rw[W.o];exact L.o,by rw[W.o];exact C.o.trans I.o⟩
end Cl
end Go.Proofs.YtjobajeggllmiaaGreat
