import Derived.Test.YtljpoibnkkcjdaaGreatDoorPc26
set_option linter.unusedVariables false
set_option linter.unusedSimpArgs false
namespace Go.Proofs.YtljpoibnkkcjdaaGreatDoor
namespace Tx
open Go.RowKit Mem Rws Sm ReadLaw
def DRow (w:World) (g:Nat) (D:List Nat):Prop:=∃cur F,w.heap[g]?=some (.cells cur 5 (F,F+1))∧D.length≤F∧D.length≤cur.size∧∀i,i<D.length→cur[i]?=some (.int .u8 ((D.getD i 0:Nat):Int))
theorem DRow.cell {w:World} {g:Nat} {D:List Nat} (h:DRow w g D) (i:Nat) (hi:i<D.length): w.cell? ⟨g,i,none⟩=some (.int .u8 ((D.getD i 0:Nat):Int)):=by
 obtain⟨cur,F,h1,h2,h3,h4⟩:=h
 simp only [World.cell?,h1]
 exact h4 i hi
theorem DRow.thaw {w:World} {g:Nat} {D:List Nat} (h:DRow w g D) (i:Nat) (hi:i<D.length): w.frozen? ⟨g,i,none⟩=false:=by
 obtain⟨cur,F,h1,h2,h3,h4⟩:=h
 simp only [World.frozen?,h1]
 simp
 omega
theorem DRow.lt {w:World} {g:Nat} {D:List Nat} (h:DRow w g D):g<w.heap.size:=by
 obtain⟨cur,F,h1,_⟩:=h
 exact(Array.getElem?_eq_some_iff.1 h1).1
theorem DRow.set {w:World} {g:Nat} {D:List Nat} (h:DRow w g D) (i x:Nat):DRow (w.setCell ⟨g,i,none⟩ (.int .u8 (x:Int))) g (D.set i x):=by
 obtain⟨cur,F,h1,h2,h3,h4⟩:=h
 refine⟨cur.setIfInBounds i (.int .u8 (x:Int)),F,?_,by rw [List.length_set];exact h2,by rw [List.length_set];simpa using h3,fun j hj=>?_⟩
 · simp [World.setCell,Array.getElem?_modify,h1]
 ·
  rw [List.length_set]at hj
  rw [Array.getElem?_setIfInBounds,List.getD_eq_getElem?_getD,List.getElem?_set]
  by_cases e:i=j
  ·
   subst e
   rw [if_pos rfl,if_pos rfl,if_pos (by omega),if_pos hj];rfl
  · rw [if_neg e,if_neg e,h4 j hj,List.getD_eq_getElem?_getD]
theorem DRow.grownSet {w:World} {g:Nat} {D:List Nat} (h:DRow w g D) (i x:Nat):w.grownBy (w.setCell ⟨g,i,none⟩ (.int .u8 (x:Int))) (some g):=by
 have hb:Below g w (w.setCell ⟨g,i,none⟩ (.int .u8 (x:Int))):=(Below.refl g w).setCell (Nat.le_refl _) _
 exact⟨hb.os,hb.tape,hb.output,hb.size,fun k hk hne=>Below.heap_setCell w ⟨g,i,none⟩ _ k (fun e=>hne (by rw [e]))⟩
theorem DRow.other {w w':World} {g:Nat} {D:List Nat} (h:DRow w g D) (hb:w'.heap[g]?=w.heap[g]?):DRow w' g D:=by
 obtain⟨cur,F,h1,h2⟩:=h
 exact⟨cur,F,hb.trans h1,h2⟩
theorem twd_drop (D:List Nat) (i:Nat) (h:i<D.length):twd (D.drop i)=((2*D.getD i 0+(twd (D.drop (i+1))).2)%10::(twd (D.drop (i+1))).1,(2*D.getD i 0+(twd (D.drop (i+1))).2)/10):=by
 rw [List.drop_eq_getElem_cons h,List.getD_eq_getElem?_getD,List.getElem?_eq_getElem h];rfl
def twM (D:List Nat) (i:Nat):List Nat:=D.take i++(twd (D.drop i)).1
theorem twM_length (D:List Nat) (i:Nat):(twM D i).length=D.length:=by
 rw [twM,List.length_append,twd_length,List.length_take,List.length_drop];omega
theorem twM_get (D:List Nat) (i:Nat) (h:i<D.length):(twM D (i+1)).getD i 0=D.getD i 0:=by
 rw [twM,List.getD_eq_getElem?_getD,List.getElem?_append_left (by rw [List.length_take];omega),List.getElem?_take,if_pos (by omega),List.getD_eq_getElem?_getD]
theorem twM_set (D:List Nat) (i:Nat) (h:i<D.length):(twM D (i+1)).set i ((2*D.getD i 0+(twd (D.drop (i+1))).2)%10)=twM D i:=by
 unfold twM
 rw [twd_drop D i h,take_succ_getD D i h,List.append_assoc,List.set_append_right _ _ (by rw [List.length_take];omega),List.length_take,Nat.min_eq_left (by omega),Nat.sub_self];rfl
theorem twM_end (D:List Nat):twM D D.length=D:=by
 rw [twM,List.take_length,List.drop_length];exact List.append_nil _
theorem twice_any (gd g c:Nat) (D:List Nat) (w:World) (hD:∀x∈D,x<10) (hn:D.length≤100) (hgd:Blk w gd 58 #[.slice (some ⟨g,0,none⟩) D.length c]) (hne:gd≠g) (hr:DRow w g D):
  Calls Tryz.prog 130 #[.pointer (some ⟨gd,0,none⟩)] w fun e w'=>e=.returned (.int .u64 ((twd D).2:Int))∧DRow w' g (twd D).1∧w.grownBy w' (some g):=by
 obtain⟨n,hnn⟩:∃n,n=D.length:=⟨_,rfl⟩
 have HGD:=Lib.hid hgd
 have hn2:n≤100:=by omega
 rw [←hnn]at hgd
 have hc0: w.cell? ⟨gd,0,none⟩=some (.slice (some ⟨g,0,none⟩) n c):=(hgd.cell 0).trans rfl
 have HC0:=Lib.hid hc0
 have HR:=Lib.hid hr
 have HN:=Lib.hid hnn
 have HDS:=Lib.hid hD
 clear hgd hr hD hnn hn
 go_enter Tryz.func130,Tryz.ntmps130
 go_upto_region 3 with fail
 go_loopw [2,3] (fun cv i wr=>∃k:Nat,k≤n∧i=.int .i64 ((k:Int)-1)∧cv=.int .u8 ((twd (D.drop k)).2:Int)∧DRow wr g (twM D k)∧w.grownBy wr (some g)) (fun _ i _=>(intOf i+1).toNat)
 case atStart=>exact⟨n,Nat.le_refl _,rfl,by rw [HN.out,List.drop_length];rfl,by rw [HN.out,twM_end];exact HR.out,grown_same _ _⟩
 case round=>
  obtain⟨k,hk,rfl,rfl,hrow,hg⟩:=hrel
  have HRW:=Lib.hid hrow
  have HG:=Lib.hid hg
  have hc1: wr.cell? ⟨gd,0,none⟩=some (.slice (some ⟨g,0,none⟩) n c):=hg.cell HC0.out (fun e=>hne (by injection e))
  clear hrow hg
  by_cases hpos:0<k
  ·
   obtain⟨j,rfl⟩:∃j,k=j+1:=⟨k-1,by omega⟩
   rw [show((j+1:Nat):Int)-1=(j:Int)by omega]
   have hjD:j<D.length:=by rw [←HN.out];omega
   have hcj:=HRW.out.cell j (by rw [twM_length];exact hjD)
   have hfj:=HRW.out.thaw j (by rw [twM_length];exact hjD)
   rw [twM_get D j hjD]at hcj
   obtain⟨x,hx⟩:∃x,D.getD j 0=x:=⟨_,rfl⟩
   have hx9:x<10:=by
    rw [←hx,List.getD_eq_getElem?_getD,List.getElem?_eq_getElem hjD];exact HDS.out _ (List.getElem_mem hjD)
   have hcy:(twd (D.drop (j+1))).2≤1:=twd_carry _ (fun c hc=>HDS.out c (List.mem_of_mem_drop hc))
   have HT:=Lib.hid (twd_drop D j hjD)
   have HS:=Lib.hid (twM_set D j hjD)
   rw [hx]at hcj HT HS
   generalize(twd (D.drop (j+1))).2=y at hcy HT HS
   have e1:(2*(x:Int)+(y:Int))%10=(((2*x+y)%10:Nat):Int):=by omega
   have e2:(2*(x:Int)+(y:Int))/10=(((2*x+y)/10:Nat):Int):=by omega
   have e3:(2*x+y)%10<10:=Nat.mod_lt _ (by omega)
   have e4:(2*x+y)/10≤1:=by omega
   generalize hp:(2*x+y)%10=p at e1 e3 HT HS
   generalize hq:(2*x+y)/10=q at e2 e4 HT
   have hqw:IntKind.u8.wrap (q:Int)=(q:Int):=by simp [IntKind.wrap,IntKind.bits,IntKind.signed];omega
   clear hx hp hq hpos
   have hjn:(j:Int)<(n:Int):=by omega
   go_wp2_with fail
   refine⟨⟨j,by omega,rfl,by rw [e2,HT.out],?_,HG.out.trans (HRW.out.grownSet j p)⟩,by simp [intOf]⟩
   rw [←HS.out]
   exact HRW.out.set j p
  ·
   obtain rfl:k=0:=by omega
   rw [show((0:Nat):Int)-1= -1 from rfl,List.drop_zero]
   have HRE:=Lib.hid (show DRow wr g (twd D).1 by have h:=HRW.out;rwa [twM,List.take_zero,List.nil_append,List.drop_zero]at h)
   have hcy:(twd D).2≤1:=twd_carry _ HDS.out
   obtain⟨y,hy⟩:∃y,y=(twd D).2:=⟨_,rfl⟩
   rw [←hy]at hcy ⊢
   have HY:=Lib.hid hy
   clear hy hpos
   go_wp2_with fail
   go_ret
   exact⟨by rw [←HY.out];rfl,HRE.out,HG.out⟩
theorem fracRow (S:ByteArray) (l:List Nat) (hS:S=strB l) (hl:∀x∈l,x<256) (cap:Nat) (hc:S.size≤cap) (w:World) (g:Nat) (hg:w.heap[g]?=some (.cells (bytesRow S cap) 5 ((bytesRow S cap).size,(bytesRow S cap).size+1))):DRow w g l:=by
 have hsz:S.size=l.length:=by rw [hS,strB_size]
 have hs2:(bytesRow S cap).size=cap:=by
  unfold bytesRow
  rw [Array.size_append,Array.size_map,Array.size_replicate]
  show S.size+(cap-S.size)=cap
  omega
 refine⟨_,_,hg,by omega,by omega,fun i hi=>?_⟩
 have h1:i<S.data.size:=by show i<S.size;omega
 unfold bytesRow
 rw [Array.getElem?_append_left (by rw [Array.size_map];exact h1),Array.getElem?_map]
 have h2:S.data[i]?=some (UInt8.ofNat (l.getD i 0)):=by
  have h3:S.data.toList[i]?=some (UInt8.ofNat (l.getD i 0)):=by
   rw [hS,strB_data,List.getElem?_map,List.getElem?_eq_getElem hi,List.getD_eq_getElem?_getD,List.getElem?_eq_getElem hi];rfl
  rw [←Array.getElem?_toList];exact h3
 rw [h2]
 have h4:l.getD i 0<256:=by rw [List.getD_eq_getElem?_getD,List.getElem?_eq_getElem hi];exact hl _ (List.getElem_mem hi)
 simp only [Option.map_some,UInt8.toNat_ofNat']
 congr 2
 omega
def subM (l:List Nat) (k:Nat):List Nat:=(l.take k).map (· -48)++l.drop k
theorem subM_length (l:List Nat) (k:Nat):(subM l k).length=l.length:=by simp [subM];omega
theorem subM_get (l:List Nat) (k:Nat) (h:k<l.length):(subM l k).getD k 0=l.getD k 0:=by
 rw [subM,List.getD_eq_getElem?_getD,List.getElem?_append_right (by simp;omega),List.length_map,List.length_take,Nat.min_eq_left (by omega),Nat.sub_self,List.getElem?_drop,Nat.add_zero,List.getD_eq_getElem?_getD]
theorem subM_set (l:List Nat) (k:Nat) (h:k<l.length):(subM l k).set k (l.getD k 0-48)=subM l (k+1):=by
 unfold subM
 rw [List.set_append_right _ _ (by simp;omega),List.length_map,List.length_take,Nat.min_eq_left (by omega),Nat.sub_self,take_succ_getD l k h,List.map_append,List.append_assoc,List.drop_eq_getElem_cons h];rfl
theorem or_one (u c:Nat) (hc:c≤1):2*u|||c=2*u+c:=by
 rw [Nat.or_comm,Go.Proofs.YtljpoibnkkcjdaaGreatDoor.BigW.or_low c (2*u) 1 (by omega) (by omega)]
theorem numD_zero:∀(D:List Nat),numD D=0↔D.all (· ==0)=true
 |[]=>by simp [numD]
 |x::xs=>by
  have ih:=numD_zero xs
  rw [numD_cons,List.all_cons,Bool.and_eq_true,beq_iff_eq,←ih]
  have hp:0<10 ^ xs.length:=Nat.pow_pos (by omega)
  constructor
  ·
   intro h
   have h1:x*10 ^ xs.length=0:=by omega
   rcases Nat.mul_eq_zero.1 h1 with h2|h2
   · exact⟨h2,by omega⟩
   · omega
  ·
   rintro⟨rfl,h⟩
   rw [h,Nat.zero_mul]
theorem wpList_bytes {P:Program} {w:World} {ops:Array Oper} {rest:List Oper} {o:Oper} {a:Act} {Q:Exit→Act→World→Prop} (hg:o.guard=none) (src dst e:TypeId) (x:Operand) (ho:o.op=.convert src dst x)
  (hs:P.underlying src=some .string) (hd:P.underlying dst=some (.slice e)) (he:P.underlying e=some (.int .u8)) {s:ByteArray} (hx:a.eval x=.string s)
  (h:∀w1 cap,s.size≤cap→w1.heap[w.heap.size]?=some (.cells (bytesRow s cap) e ((bytesRow s cap).size,(bytesRow s cap).size+1))→Below w.heap.size w w1→w1.heap.size=w.heap.size+1→wpList P ops Q rest (a.put o.dst (.slice (some ⟨w.heap.size,0,none⟩) s.size cap)) w1):wpList P ops Q (o::rest) a w:=by
 refine wpList_plain hg fun K hK=>?_
 have hr:=run_bytes_of_string (P:=P) w src dst e s hs hd he
 unfold Oper.wp
 simp only [execOp,ho,hx,hr,Result.andThen_ok,Sem.run_bind,Sem.run_pure]
 refine hK _ _ (h _ _ (grownCap_ge w s.size 0 e) ?_ ⟨rfl,rfl,rfl,by simp,fun k hk=>(by first|exact heap_alloc_old w.drew _ hk|exact heap_alloc_old w.drew _ _ hk)⟩ (by simp))
 exact heap_alloc_new w.drew _
theorem below_grown_ {g:Nat} {a w w':World} (h:Below a.heap.size a w) (hg:w.grownBy w' (some g)) (hB:g=a.heap.size):Below a.heap.size a w':=by
 refine⟨hg.os.trans h.os,hg.tape.trans h.tape,hg.output.trans h.output,Nat.le_trans h.size hg.size,fun k hk=>?_⟩
 rw [hg.block k (Nat.lt_of_lt_of_le hk h.size) (fun e=>by injection e with e;omega)]
 exact h.block k hk
def cf (D:List Nat) (q m:Nat):Int:=if q=1 then(if(D.take m).all (· ==0)=true then 0 else 1)else-1
theorem cf_succ (D:List Nat) (q m x:Nat) (hm:m<D.length) (hx:D.getD m 0=x):cf D q (m+1)=if 0<x∧cf D q m=0 then 1 else cf D q m:=by
 unfold cf
 rw [take_succ_getD D m hm,hx,List.all_append]
 by_cases hq:q=1
 ·
  simp only [if_pos hq]
  cases hz:(D.take m).all (· ==0)
  · simp
  ·
   by_cases h0:x=0
   · subst h0;simp
   ·
    have h1:0<x:=by omega
    simp [h0,h1]
 ·
  simp only [if_neg hq]
  rw [if_neg (fun h=>absurd h.2 (by decide))]
theorem cf_half {D:List Nat} {q P r:Nat} (hq:q≤1) (h:numD D+q*P=2*r) (hlt:numD D<P):cf D q D.length=half P r:=by
 have hz:=numD_zero D
 unfold cf half
 rw [List.take_length]
 by_cases h1:q=1
 ·
  subst h1
  simp only [if_true]
  have h2:¬2*r<P:=by omega
  rw [if_neg h2]
  by_cases h0:D.all (· ==0)=true
  · rw [if_pos h0,if_pos (by have:=hz.2 h0;omega)]
  ·
   have h3:numD D≠0:=fun e=>h0 (hz.1 e)
   rw [if_neg h0,if_neg (by omega)]
 ·
  obtain rfl:q=0:=by omega
  rw [if_neg h1,if_pos (by omega)]
set_option maxRecDepth 100000 in
set_option maxHeartbeats 1000000 in
theorem fraction_any (l:List Nat) (w:World) (hl:l.all dg=true) (hn:l.length≤100):
  Calls Tryz.prog 112 #[.string (strB l)] w fun e w'=>(∃u r,e=.returned (.tuple #[.int .u64 (u:Nat),.int .i64 (half (10 ^ l.length) r)])∧FrAt (num l) (10 ^ l.length) 32 u r)∧Below w.heap.size w w':=by
 obtain⟨S,hS⟩:∃S,S=strB l:=⟨_,rfl⟩
 obtain⟨n,hnn⟩:∃n,n=l.length:=⟨_,rfl⟩
 have hsz:S.size=n:=by rw [hS,strB_size,hnn]
 have hl256:∀x∈l,x<256:=fun x hx=>by have:=of_decide_eq_true ((List.all_eq_true.1 hl) x hx);omega
 rw [←hS]
 have HS:=Lib.hid hS
 have HL:=Lib.hid hl
 have HL2:=Lib.hid hl256
 have HN:=Lib.hid hnn
 have hn2:n≤100:=by omega
 have HZ:=Lib.hid hsz
 clear hS hl hl256 hnn hn hsz
 go_enter Tryz.func112,Tryz.ntmps112
 go_upto_region 1 with fail
 go_upto_region 2 with(refine wpList_bytes rfl 9 58 5 (.tmp 11) rfl Tryz.underlying9 Tryz.underlying58 Tryz.underlying5 rfl ?_;intro w1 cap hcap hrow hb1 hsz1;have HROW:=Lib.hid hrow;have HB1:=Lib.hid hb1;clear hrow hb1)
 have hgd:w.heap.size+1=w1.heap.size:=by omega
 have HGD:=Lib.hid (show Blk (w1.alloc (.cells #[.slice (some ⟨w.heap.size,0,none⟩) S.size cap] 58)) (w.heap.size+1) 58 #[.slice (some ⟨w.heap.size,0,none⟩) S.size cap]from Blk.new hgd)
 have HDR0:=Lib.hid (fracRow S l HS.out HL2.out cap hcap w1 w.heap.size HROW.out)
 have HDR:=Lib.hid (show DRow (w1.alloc (.cells #[.slice (some ⟨w.heap.size,0,none⟩) S.size cap] 58)) w.heap.size l from HDR0.out.other (by first|exact heap_alloc_old w1 _ (by omega)|exact heap_alloc_old w1 _ _ (by omega)))
 have HB2:=Lib.hid (show Below w.heap.size w (w1.alloc (.cells #[.slice (some ⟨w.heap.size,0,none⟩) S.size cap] 58))from HB1.out.alloc (by omega) _)
 have HGN:=Lib.hid (show w.heap.size+1≠w.heap.size by omega)
 rw [HZ.out]at HGD HDR HB2 ⊢
 generalize(w1.alloc (.cells #[.slice (some ⟨w.heap.size,0,none⟩) n cap] 58))=w2 at HGD HDR HB2 ⊢
 generalize hG:w.heap.size+1=gd at HGD HGN ⊢
 obtain⟨g,hg⟩:∃g,g=w.heap.size:=⟨_,rfl⟩
 rw [←hg]at HGD HDR HGN ⊢
 have HG:=Lib.hid hg
 clear hG hgd hsz1 hcap HB1 HROW HDR0 hg
 have hc0: w2.cell? ⟨gd,0,none⟩=some (.slice (some ⟨g,0,none⟩) n cap):=(HGD.out.cell 0).trans rfl
 have HC0:=Lib.hid hc0
 go_upto_region 3 with fail
 go_loopw [5,15] (fun _ i wr=>∃k:Nat,k≤n∧i=.int .i64 (k:Int)∧DRow wr g (subM l k)∧w2.grownBy wr (some g)) (fun _ i _=>n-(intOf i).toNat)
 case atStart=>exact⟨0,by omega,rfl,HDR.out,grown_same _ _⟩
 case round=>
  obtain⟨k,hk,rfl,hrow,hgr⟩:=hrel
  have HRW:=Lib.hid hrow
  have HGR:=Lib.hid hgr
  have hc1: wr.cell? ⟨gd,0,none⟩=some (.slice (some ⟨g,0,none⟩) n cap):=hgr.cell HC0.out (fun e=>HGN.out (by injection e))
  have HC1:=Lib.hid hc1
  clear hrow hgr hc0
  by_cases hlt:k<n
  ·
   have hkl:k<l.length:=by rw [←HN.out];exact hlt
   have hck:=HRW.out.cell k (by rw [subM_length];exact hkl)
   have hfk:=HRW.out.thaw k (by rw [subM_length];exact hkl)
   rw [subM_get l k hkl]at hck
   have HST:=Lib.hid (subM_set l k hkl)
   obtain⟨x,hx⟩:∃x,l.getD k 0=x:=⟨_,rfl⟩
   have hdx:48≤x∧x≤57:=by
    refine of_decide_eq_true (show dg x=true from(List.all_eq_true.1 HL.out) x ?_)
    rw [←hx,List.getD_eq_getElem?_getD,List.getElem?_eq_getElem hkl];exact List.getElem_mem hkl
   rw [hx]at hck HST
   have e1:(x:Int)-48=((x-48:Nat):Int):=by omega
   have hy:x-48<10:=by omega
   generalize x-48=y at e1 hy HST
   clear hx hkl
   have hlt':(k:Int)<(n:Int):=by omega
   go_wp2_with fail
   refine⟨⟨k+1,by omega,by go_num,?_,HGR.out.trans (HRW.out.grownSet k y)⟩,by simp [intOf];omega⟩
   rw [←HST.out]
   exact HRW.out.set k y
  ·
   have e:k=n:=by omega
   have hge:¬k<n:=hlt
   have HD0:=Lib.hid (show DRow wr g (l.map (· -48))by have h:=HRW.out;rwa [e,HN.out,subM,List.take_length,List.drop_length,List.append_nil]at h)
   have HD1:=Lib.hid (dg_sub HL.out)
   have HD2:=Lib.hid (num_map l)
   have HD3:=Lib.hid (show(l.map (· -48)).length=n by rw [List.length_map,HN.out])
   have HP:=Lib.hid (num_lt HL.out)
   clear hlt e HRW
   generalize l.map (· -48)=D0 at HD0 HD1 HD2 HD3
   go_upto_region 10 with fail
   have HGW:=Lib.hid (HGD.out.grown HGR.out (fun e=>HGN.out (by injection e)))
   clear hc1
   generalize wr=w3 at*
   go_loopw [7,26] (fun uv jv wr=>∃(j u:Nat) (D:List Nat),j≤32∧jv=.int .i64 (j:Int)∧uv=.int .u64 (u:Int)∧D.length=n∧(∀x∈D,x<10)∧FrAt (num l) (10 ^ n) j u (numD D)∧DRow wr g D∧w3.grownBy wr (some g)) (fun _ jv _=>40-(intOf jv).toNat)
   case atStart=>
    refine⟨0,0,D0,by omega,rfl,rfl,HD3.out,HD1.out,?_,HD0.out,grown_same _ _⟩
    rw [HD2.out]
    exact FrAt.zero (by have h:=HP.out;rwa [←HN.out]at h)
   case round=>
    obtain⟨j,u,D,hj,rfl,rfl,hDn,hD9,hfr,hrow,hgr⟩:=hrel
    have HDN:=Lib.hid hDn
    have HD9:=Lib.hid hD9
    have HFR:=Lib.hid hfr
    have HROW:=Lib.hid hrow
    have HGR3:=Lib.hid hgr
    have HGW3:=Lib.hid (HGW.out.grown hgr (fun e=>HGN.out (by injection e)))
    have HPP:=Lib.hid (show num l<10 ^ n by have h:=HP.out;rwa [←HN.out]at h)
    have HTW:=Lib.hid (twice_any gd g cap D wr hD9 (by omega) (by rw [hDn];exact HGW3.out) HGN.out hrow)
    have HTL:=Lib.hid (show numD (twd D).1+(twd D).2*10 ^ n=2*numD D by have h:=twd_law D;rwa [hDn]at h)
    have HTN:=Lib.hid (show(twd D).1.length=n by rw [twd_length,hDn])
    have HT9:=Lib.hid (twd_small D)
    have htc:=twd_carry D hD9
    have HLT:=Lib.hid (show numD (twd D).1<10 ^ n by have h:=numD_lt (twd D).1 (twd_small D);rwa [twd_length,hDn]at h)
    clear hDn hD9 hfr hrow hgr
    by_cases hj32:j<32
    ·
     have hul:u<4294967296:=by
      have h:=HFR.out.lt_pow HPP.out
      have h2:2 ^ j≤2 ^ 31:=Nat.pow_le_pow_right (by omega) (by omega)
      omega
     have hj':(j:Int)<32:=by omega
     go_upto_region 11 with fail
     go_wp2_with fail
     refine HTW.out.mono ?_
     rintro e w4 ⟨rfl,hr4,hg4⟩
     have HR4:=Lib.hid hr4
     have HG4:=Lib.hid (HGR3.out.trans hg4)
     have HFS:=Lib.hid (HFR.out.step HTL.out HLT.out)
     clear hr4 hg4
     generalize(twd D).2=q at htc HFS
     have hor:bits .or .u64 ((u:Int)*2) (q:Int)=((2*u+q:Nat):Int):=by
      have h:=u64_or_nat (2*u) q (by omega) (by omega)
      rw [or_one u q htc]at h
      have e:((2*u:Nat):Int)=(u:Int)*2:=by omega
      rwa [e]at h
     go_wp2_with fail
     exact⟨⟨j+1,2*u+q,(twd D).1,by omega,by go_num,rfl,HTN.out,HT9.out,HFS.out,HR4.out,HG4.out⟩,by simp [intOf];omega⟩
    ·
     have e:j=32:=by omega
     have hj':¬(j:Int)<32:=by omega
     have HF32:=Lib.hid (show FrAt (num l) (10 ^ n) 32 u (numD D)by have h:=HFR.out;rwa [e]at h)
     have hul:u<4294967296:=HF32.out.lt_pow HPP.out
     have HG2:=Lib.hid (show Below w.heap.size w wr from below_grown_ HB2.out (HGR.out.trans HGR3.out) HG.out)
     clear e hj32
     go_wp2_with fail
     refine HTW.out.mono ?_
     rintro e w4 ⟨rfl,hr4,hg4⟩
     have HR4:=Lib.hid hr4
     have HB4:=Lib.hid (below_grown_ HG2.out hg4 HG.out)
     have HGW4:=Lib.hid (HGW3.out.grown hg4 (fun e=>HGN.out (by injection e)))
     have hc4: w4.cell? ⟨gd,0,none⟩=some (.slice (some ⟨g,0,none⟩) n cap):=(HGW4.out.cell 0).trans rfl
     have HC4:=Lib.hid hc4
     obtain⟨r,hr⟩:∃r,r=numD D:=⟨_,rfl⟩
     rw [←hr]at HF32 HTL
     clear hr4 hg4 HTW HFR HLT HROW hr
     generalize(twd D).1=D2 at HTL HTN HT9 HR4
     generalize(twd D).2=q at htc HTL ⊢
     have hc5:=hc4
     clear hc4
     by_cases hq1:q=1
     ·
      have HC:=Lib.hid (show(0:Int)=cf D2 q 0 by unfold cf;rw [if_pos hq1];rfl)
      have hqe:((q:Int)==1)=true:=by rw [beq_iff_eq];omega
      go_upto_region 17 with fail
      go_loopw [8,10,39] (fun cv _ mv wr=>∃(m:Nat) (c:Int),m≤n∧mv=.int .i64 (m:Int)∧c=cf D2 q m∧cv=.int .i64 c∧wr=w4) (fun _ _ mv _=>n-(intOf mv).toNat)
      case atStart=>exact⟨0,0,by omega,rfl,HC.out,rfl,rfl⟩
      case round=>
       obtain⟨m,c,hm,rfl,hcm,rfl,rfl⟩:=hrel
       have HCM:=Lib.hid hcm
       clear hcm
       by_cases hlt:m<n
       ·
        have hmD:m<D2.length:=by rw [HTN.out];exact hlt
        have hck:=HR4.out.cell m hmD
        obtain⟨x,hx⟩:∃x,D2.getD m 0=x:=⟨_,rfl⟩
        have HCS:=Lib.hid (cf_succ D2 q m x hmD hx)
        rw [←HCM.out]at HCS
        rw [hx]at hck
        clear hx hmD
        have hlt':(m:Int)<(n:Int):=by omega
        by_cases hx0:0<x
        ·
         have hx1:(0:Int)<(x:Int):=by omega
         by_cases hcz:c=0
         ·
          have HC1:=Lib.hid (show(1:Int)=cf D2 q (m+1)by rw [HCS.out,if_pos ⟨hx0,hcz⟩])
          have hcz':(c==0)=true:=by rw [beq_iff_eq];exact hcz
          go_wp2_with fail
          exact⟨⟨m+1,1,by omega,by go_num,HC1.out,rfl,trivial⟩,by simp [intOf];omega⟩
         ·
          have HC1:=Lib.hid (show c=cf D2 q (m+1)by rw [HCS.out,if_neg (fun h=>hcz h.2)])
          have hcz':(c==0)=false:=by rw [beq_eq_false_iff_ne];exact hcz
          go_wp2_with fail
          exact⟨⟨m+1,c,by omega,by go_num,HC1.out,rfl,trivial⟩,by simp [intOf];omega⟩
        ·
         have hx1:¬(0:Int)<(x:Int):=by omega
         have HC1:=Lib.hid (show c=cf D2 q (m+1)by rw [HCS.out,if_neg (fun h=>hx0 h.1)])
         go_wp2_with fail
         exact⟨⟨m+1,c,by omega,by go_num,HC1.out,rfl,trivial⟩,by simp [intOf];omega⟩
       ·
        have e:m=n:=by omega
        have hge:¬m<n:=hlt
        have HCE:=Lib.hid (show c=half (10 ^ n) r by
         rw [HCM.out,e,←HTN.out]
         exact cf_half htc (by rw [HTN.out];exact HTL.out) (by have h:=numD_lt D2 HT9.out;exact h))
        have hul2:=hul
        clear hlt e
        go_wp2_with fail
        go_ret2
        exact⟨⟨u,r,by rw [HCE.out,←HN.out];rfl,by rw [←HN.out];exact HF32.out⟩,HB4.out⟩
     ·
      have HC:=Lib.hid (show(-1:Int)=cf D2 q 0 by unfold cf;rw [if_neg hq1])
      have hqe:((q:Int)==1)=false:=by rw [beq_eq_false_iff_ne];omega
      go_upto_region 17 with fail
      go_loopw [8,10,39] (fun cv _ mv wr=>∃(m:Nat) (c:Int),m≤n∧mv=.int .i64 (m:Int)∧c=cf D2 q m∧cv=.int .i64 c∧wr=w4) (fun _ _ mv _=>n-(intOf mv).toNat)
      case atStart=>exact⟨0,-1,by omega,rfl,HC.out,rfl,rfl⟩
      case round=>
       obtain⟨m,c,hm,rfl,hcm,rfl,rfl⟩:=hrel
       have HCM:=Lib.hid hcm
       clear hcm
       by_cases hlt:m<n
       ·
        have hmD:m<D2.length:=by rw [HTN.out];exact hlt
        have hck:=HR4.out.cell m hmD
        obtain⟨x,hx⟩:∃x,D2.getD m 0=x:=⟨_,rfl⟩
        have HCS:=Lib.hid (cf_succ D2 q m x hmD hx)
        rw [←HCM.out]at HCS
        rw [hx]at hck
        clear hx hmD
        have hlt':(m:Int)<(n:Int):=by omega
        by_cases hx0:0<x
        ·
         have hx1:(0:Int)<(x:Int):=by omega
         by_cases hcz:c=0
         ·
          have HC1:=Lib.hid (show(1:Int)=cf D2 q (m+1)by rw [HCS.out,if_pos ⟨hx0,hcz⟩])
          have hcz':(c==0)=true:=by rw [beq_iff_eq];exact hcz
          go_wp2_with fail
          exact⟨⟨m+1,1,by omega,by go_num,HC1.out,rfl,trivial⟩,by simp [intOf];omega⟩
         ·
          have HC1:=Lib.hid (show c=cf D2 q (m+1)by rw [HCS.out,if_neg (fun h=>hcz h.2)])
          have hcz':(c==0)=false:=by rw [beq_eq_false_iff_ne];exact hcz
          go_wp2_with fail
          exact⟨⟨m+1,c,by omega,by go_num,HC1.out,rfl,trivial⟩,by simp [intOf];omega⟩
        ·
         have hx1:¬(0:Int)<(x:Int):=by omega
         have HC1:=Lib.hid (show c=cf D2 q (m+1)by rw [HCS.out,if_neg (fun h=>hx0 h.1)])
         go_wp2_with fail
         exact⟨⟨m+1,c,by omega,by go_num,HC1.out,rfl,trivial⟩,by simp [intOf];omega⟩
       ·
        have e:m=n:=by omega
        have hge:¬m<n:=hlt
        have HCE:=Lib.hid (show c=half (10 ^ n) r by
         rw [HCM.out,e,←HTN.out]
         exact cf_half htc (by rw [HTN.out];exact HTL.out) (by have h:=numD_lt D2 HT9.out;exact h))
        have hul2:=hul
        clear hlt e
        go_wp2_with fail
        go_ret2
        exact⟨⟨u,r,by rw [HCE.out,←HN.out];rfl,by rw [←HN.out];exact HF32.out⟩,HB4.out⟩
end Tx
namespace ReadLaw
theorem digits_parts {l:List Nat} (h:digitsOf l=true):l≠[]∧l.all dg=true:=by
 unfold digitsOf at h
 rw [Bool.and_eq_true]at h
 exact⟨of_decide_eq_true h.1,h.2⟩
theorem cut_ok {t a b:List Nat} (h:cutOf t=(a,b,true)):a≠[]∧a.all dg=true∧b.all dg=true:=by
 unfold cutOf at h
 split at h
 ·
  injection h with h1 h2
  injection h2 with h2 h3
  subst h1 h2
  obtain⟨h4,h5⟩:=digits_parts h3
  exact⟨h4,h5,rfl⟩
 ·
  injection h with h1 h2
  injection h2 with h2 h3
  rw [Bool.and_eq_true]at h3
  rw [h2,h1]at h3
  exact⟨(digits_parts h3.1).1,(digits_parts h3.1).2,(digits_parts h3.2).2⟩
theorem cut_length (t:List Nat):(cutOf t).1.length≤t.length∧(cutOf t).2.1.length≤t.length:=by
 unfold cutOf
 split
 · exact⟨Nat.le_refl _,Nat.zero_le _⟩
 ·
  refine⟨?_,by simp only [List.length_drop];omega⟩
  exact(List.takeWhile_sublist (l:=t) (· !=46)).length_le
theorem body_form {neg:Bool} {t a b:List Nat} {ok:Bool} (h:cutOf t=(a,b,ok)) (hf:ok=false∨(1<a.length∧a.getD 0 0=48)):bodyOf neg t=(0,2):=by
 unfold bodyOf
 rw [h]
 exact if_pos hf
theorem body_val {neg:Bool} {t a b:List Nat} (h:cutOf t=(a,b,true)) (hf:¬(1<a.length∧a.getD 0 0=48)):bodyOf neg t=valOf neg (num a*10 ^ b.length+num b) b.length:=by
 unfold bodyOf
 rw [h]
 rw [←num_append]
 refine if_neg (fun e=>?_)
 rcases e with e|e
 · cases e
 · exact hf e
theorem fr_all (B k:Nat):∃p r,FrAt B (10 ^ k) 32 p r:=by
 have hP:0<10 ^ k:=Nat.pow_pos (by omega)
 refine⟨B*2 ^ 32/10 ^ k,B*2 ^ 32%10 ^ k,?_,Nat.mod_lt _ hP⟩
 have:=Nat.div_add_mod (B*2 ^ 32) (10 ^ k)
 rw [Nat.mul_comm]at this
 exact this.symm
theorem prog_big {neg:Bool} {W p:Nat} {c:Int} (h:2147483648<W):progOf neg W p c=(0,3):=by
 unfold progOf
 exact if_pos (.inl h)
theorem body_long {neg:Bool} {t a b:List Nat} (h:cutOf t=(a,b,true)) (hf:¬(1<a.length∧a.getD 0 0=48)) (hl:10<a.length):bodyOf neg t=(0,3):=by
 obtain⟨h1,h2,h3⟩:=cut_ok h
 obtain⟨p,r,hr⟩:=fr_all (num b) b.length
 rw [body_val h hf,←prog_val neg (num a) (num b) b.length p r hr]
 refine prog_big ?_
 obtain⟨c,l,rfl⟩:∃c l,a=c::l:=by cases a with|nil=>exact absurd rfl h1|cons c l=>exact⟨c,l,rfl⟩
 have hc:c≠48:=fun e=>hf ⟨by omega,e⟩
 have hg:=num_ge h2 hc
 have hm:10 ^ 10≤10 ^ l.length:=Nat.pow_le_pow_right (by omega) (by rw [List.length_cons]at hl;omega)
 omega
theorem num_take (a:List Nat) (k:Nat) (h:k<a.length):num (a.take (k+1))=num (a.take k)*10+(a.getD k 0-48):=by
 have e:a.take (k+1)=a.take k++[a.getD k 0]:=by rw [List.take_add_one,List.getD_eq_getElem?_getD,List.getElem?_eq_getElem h];rfl
 rw [e,num_snoc]
theorem num_take_lt {a:List Nat} (h:a.all dg=true) (k:Nat):num (a.take k)<10 ^ k:=by
 have h1:(a.take k).all dg=true:=by
  rw [List.all_eq_true]at h ⊢
  exact fun x hx=>h x (List.mem_of_mem_take hx)
 refine Nat.lt_of_lt_of_le (num_lt h1) (Nat.pow_le_pow_right (by omega) ?_)
 rw [List.length_take];omega
end ReadLaw
end Go.Proofs.YtljpoibnkkcjdaaGreatDoor
