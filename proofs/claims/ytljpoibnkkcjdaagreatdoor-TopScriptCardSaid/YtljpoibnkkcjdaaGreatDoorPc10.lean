import Derived.Shelf.SortM.Plain
import Derived.Shelf.SortM.SortNone
import Derived.Test.YtljpoibnkkcjdaaGreatDoorPc9
set_option linter.unusedVariables false
set_option linter.unusedSimpArgs false
namespace Go.Proofs.YtljpoibnkkcjdaaGreatDoor
namespace Nd
open Go.RowKit Mem Rws
def changesV (l:List (Int×Int)):List Value:=l.flatMap fun c=>[.int .i64 c.1,.int .i64 c.2]
theorem changesV_snoc (l:List (Int×Int)) (a b:Int):changesV (l++[(a,b)])=changesV l++[.int .i64 a,.int .i64 b]:=by
 unfold changesV;rw [List.flatMap_append];rfl
def zeroRS:RS:=⟨fun _=>false,fun _=>0,fun _=>0⟩
def stepR (s:RS) (st:Bool) (bs:List Bool):RS×List (Int×Int)×Int:=
 if bs.length≠4 then(zeroRS,[],8)
 else if okTo s.f s.m s.j 4=false then(zeroRS,[],3)
 else if st=false then(s,[],0)
 else((many s (fun i=>bs.getD i false) 4).1,(many s (fun i=>bs.getD i false) 4).2,0)
def StepAs (w w':World) (r:RS×List (Int×Int)×Int) (e:Ending):Prop:=
 ∃A c,e=.returned (.tuple #[.agg r.1.row,.slice A r.2.1.length c,.int .i64 r.2.2])∧Rd w' w'.heap.size 2 A r.2.1.length (changesV r.2.1)∧Below w.heap.size w w'∧(A=none→c=0)
theorem elemCh:Elem Tryz.prog 108 132 (.agg #[.int .i64 0,.int .i64 0]) 2 16:=⟨Tryz.underlying108,by kernel_rfl,rfl,by omega⟩
theorem rd_two (w:World) (a b:Value) (e:TypeId):Rd (w.alloc (.cells #[a,b] e)) (w.heap.size+1) 2 (some ⟨w.heap.size,0,none⟩) 1 [a,b]:=by
 refine⟨rfl,fun _=>⟨w.heap.size,0,rfl,by omega,fun j u hu=>?_⟩⟩
 have h:=(Blk.fresh w e #[a,b]).cell j
 rw [Nat.zero_add,h]
 simpa using hu
theorem zero_roll:(#[.bool false,.bool false,.bool false,.bool false,.int .i64 0,.int .i64 0,.int .i64 0,.int .i64 0,.int .i64 0,.int .i64 0,.int .i64 0,.int .i64 0]:Array Value)=zeroRS.row:=rfl
theorem row_roll_one (s:RS):s.row.all (·.oneCell')=true:=row_one fun i _=>rollF_one _ _ _ i
theorem many_succ (s:RS) (ag:Nat→Bool) (k:Nat):(many s ag (k+1)).2=(many s ag k).2++(one (many s ag k).1 k (ag k)).2:=rfl
set_option maxRecDepth 100000 in
set_option maxHeartbeats 4000000 in
theorem step_any (s:RS) (v:Int) (st:Bool) (A:Option Addr) (c:Nat) (bs:List Bool) (B:Nat) (w:World) (hB:B≤w.heap.size) (hl:bs.length≤140737488351232) (hr:Rd w B 1 A bs.length (boolsV bs)):
  Calls Tryz.prog 40 #[.agg s.row,.agg (verC v st A bs.length c)] w fun e w'=>StepAs w w' (stepR s st bs) e:=by
 have HR:=Lib.hid hr
 have is:∀s:RS,(Tryz.prog.info? 32).map (·.size)=some s.row.size:=fun s=>by unfold RS.row;rw [row_size];kernel_rfl
 have zs:∀s:RS,(#[.bool false,.bool false,.bool false,.bool false,.int .i64 0,.int .i64 0,.int .i64 0,.int .i64 0,.int .i64 0,.int .i64 0,.int .i64 0,.int .i64 0]:Array Value).size=s.row.size:=fun s=>by unfold RS.row;rw [row_size];rfl
 have IS:=Lib.hid is
 have ZS:=Lib.hid zs
 clear hr is zs
 have hok:∀w,Calls Tryz.prog 58 #[.agg s.row] w fun e w'=>e=.returned (.bool (okTo s.f s.m s.j 4))∧Below w.heap.size w w':=fun w=>good_any s.f s.m s.j w
 have HGD:=Lib.hid hok
 clear hok
 obtain⟨Ro,hRo⟩:∃Ro,s.row=Ro:=⟨_,rfl⟩
 have HRo:=Lib.hid hRo
 rw [hRo]at HGD ⊢
 have iR:(Tryz.prog.info? 32).map (·.size)=some Ro.size:=by rw [←hRo];exact IS.out s
 have zR:(#[.bool false,.bool false,.bool false,.bool false,.int .i64 0,.int .i64 0,.int .i64 0,.int .i64 0,.int .i64 0,.int .i64 0,.int .i64 0,.int .i64 0]:Array Value).size=Ro.size:=by rw [←hRo];exact ZS.out s
 have oR:Ro.all (·.oneCell')=true:=by rw [←hRo];exact row_roll_one s
 have iZ:(Tryz.prog.info? 32).map (·.size)=some (#[.bool false,.bool false,.bool false,.bool false,.int .i64 0,.int .i64 0,.int .i64 0,.int .i64 0,.int .i64 0,.int .i64 0,.int .i64 0,.int .i64 0]:Array Value).size:=by kernel_rfl
 have oZ:(#[.bool false,.bool false,.bool false,.bool false,.int .i64 0,.int .i64 0,.int .i64 0,.int .i64 0,.int .i64 0,.int .i64 0,.int .i64 0,.int .i64 0]:Array Value).all (·.oneCell')=true:=by simp [Value.oneCell']
 clear hRo
 have HZo:=Lib.hid zero_roll
 have W1:=Lib.hid (show Blk (((w.alloc (.cells Ro 32)).alloc (.cells (verC v st A bs.length c) 37)).alloc (.cells #[.bool false,.bool false,.bool false,.bool false,.int .i64 0,.int .i64 0,.int .i64 0,.int .i64 0,.int .i64 0,.int .i64 0,.int .i64 0,.int .i64 0] 32)) w.heap.size 32 Ro from((Blk.new rfl).alloc _).alloc _)
 have W2:=Lib.hid (show Blk (((w.alloc (.cells Ro 32)).alloc (.cells (verC v st A bs.length c) 37)).alloc (.cells #[.bool false,.bool false,.bool false,.bool false,.int .i64 0,.int .i64 0,.int .i64 0,.int .i64 0,.int .i64 0,.int .i64 0,.int .i64 0,.int .i64 0] 32)) (w.heap.size+1) 37 (verC v st A bs.length c)from(Blk.new (by simp)).alloc _)
 have W3:Hid (Blk (((w.alloc (.cells Ro 32)).alloc (.cells (verC v st A bs.length c) 37)).alloc (.cells #[.bool false,.bool false,.bool false,.bool false,.int .i64 0,.int .i64 0,.int .i64 0,.int .i64 0,.int .i64 0,.int .i64 0,.int .i64 0,.int .i64 0] 32)) (w.heap.size+1+1) 32 #[.bool false,.bool false,.bool false,.bool false,.int .i64 0,.int .i64 0,.int .i64 0,.int .i64 0,.int .i64 0,.int .i64 0,.int .i64 0,.int .i64 0]):=Lib.hid (Blk.new (by simp))
 have WB:=Lib.hid ((((Below.refl w.heap.size w).alloc (Nat.le_refl _) (.cells Ro 32)).alloc (by simp) (.cells (verC v st A bs.length c) 37)).alloc (by simp;omega) (.cells #[.bool false,.bool false,.bool false,.bool false,.int .i64 0,.int .i64 0,.int .i64 0,.int .i64 0,.int .i64 0,.int .i64 0,.int .i64 0,.int .i64 0] 32))
 unfold verC at*
 go_enter Tryz.func40,Tryz.ntmps40
 go_upto_region 1 with fail
 generalize(((w.alloc (.cells Ro 32)).alloc (.cells #[.int .i64 v,.bool st,.slice A bs.length c] 37)).alloc (.cells #[.bool false,.bool false,.bool false,.bool false,.int .i64 0,.int .i64 0,.int .i64 0,.int .i64 0,.int .i64 0,.int .i64 0,.int .i64 0,.int .i64 0] 32))=W at*
 have y1:=W2.out.cell 1
 have y2:=W2.out.cell 2
 simp only [List.getElem?_toArray,List.getElem?_cons_zero,List.getElem?_cons_succ]at y1 y2
 by_cases h4:bs.length=4
 ·
  have e4:((bs.length:Int)!=4)=false:=by rw [h4];rfl
  have H4:=Lib.hid h4
  cases hok:okTo s.f s.m s.j 4 with
  |false=>
   rw [hok]at HGD
   have HSR:=Lib.hid (show stepR s st bs=(zeroRS,[],3)by unfold stepR;rw [if_neg (by omega),if_pos hok])
   clear hok h4
   go_wp2_with(refine wpList_whole rfl 32 _ rfl w.heap.size rfl W1.out _ Tryz.underlying32 rfl iR ?_)
   refine(HGD.out _).mono ?_
   rintro e w2 ⟨rfl,hb⟩
   have X3:=Lib.hid (W3.out.below hb W3.out.lt)
   have XB:=Lib.hid (onward WB.out (Nat.le_refl _) hb)
   clear hb
   go_wp2_with(refine wpList_store_row rfl 32 _ _ rfl (w.heap.size+1+1) #[.bool false,.bool false,.bool false,.bool false,.int .i64 0,.int .i64 0,.int .i64 0,.int .i64 0,.int .i64 0,.int .i64 0,.int .i64 0,.int .i64 0] rfl rfl 32 _ X3.out iZ rfl oZ ?_)
   refine ret_row3 (x:=.slice none 0 0) (y:=.int .i64 3) rfl rfl rfl rfl (X3.out.setRow #[.bool false,.bool false,.bool false,.bool false,.int .i64 0,.int .i64 0,.int .i64 0,.int .i64 0,.int .i64 0,.int .i64 0,.int .i64 0,.int .i64 0]) ⟨by rw [Tryz.underlying32],iZ⟩ rfl ?_
   rw [HSR.out]
   exact⟨none,0,by rw [HZo.out];rfl,Rd.nil _ _ _ _,below_setRow XB.out (by omega) _,fun _=>rfl⟩
  |true=>
   rw [hok]at HGD
   have HOK:=Lib.hid (fun i hi=>show GoodAt s i from okTo_at hok i hi)
   have hnok:¬(okTo s.f s.m s.j 4=false):=by rw [hok];decide
   cases st with
   |false=>
    have HSR:=Lib.hid (show stepR s false bs=(s,[],0)by unfold stepR;rw [if_neg (by omega),if_neg hnok,if_pos rfl])
    clear hok h4 hnok
    go_wp2_with(refine wpList_whole rfl 32 _ rfl w.heap.size rfl W1.out _ Tryz.underlying32 rfl iR ?_)
    refine(HGD.out _).mono ?_
    rintro e w2 ⟨rfl,hb⟩
    have X1:=Lib.hid (W1.out.below hb W1.out.lt)
    have X2:=Lib.hid (W2.out.below hb W2.out.lt)
    have X3:=Lib.hid (W3.out.below hb W3.out.lt)
    have XB:=Lib.hid (onward WB.out (Nat.le_refl _) hb)
    have y1:=X2.out.cell 1
    simp only [List.getElem?_toArray,List.getElem?_cons_zero,List.getElem?_cons_succ]at y1
    have zR2:(#[.bool false,.bool false,.bool false,.bool false,.int .i64 0,.int .i64 0,.int .i64 0,.int .i64 0,.int .i64 0,.int .i64 0,.int .i64 0,.int .i64 0]:Array Value).size=Ro.size:=zR
    clear hb
    go_wp2_with(first
     |(refine wpList_whole rfl 32 _ rfl w.heap.size rfl X1.out _ Tryz.underlying32 rfl iR ?_)
     |(refine wpList_store_row rfl 32 _ _ rfl (w.heap.size+1+1) Ro rfl rfl 32 _ X3.out iR zR2 oR ?_))
    refine ret_row3 (x:=.slice none 0 0) (y:=.int .i64 0) rfl rfl rfl rfl (X3.out.setRow Ro) ⟨by rw [Tryz.underlying32],iR⟩ rfl ?_
    rw [HSR.out]
    exact⟨none,0,by rw [HRo.out];rfl,Rd.nil _ _ _ _,below_setRow XB.out (by omega) _,fun _=>rfl⟩
   |true=>
    have HSR:=Lib.hid (show stepR s true bs=((many s (fun i=>bs.getD i false) 4).1,(many s (fun i=>bs.getD i false) 4).2,0)by unfold stepR;rw [if_neg (by omega),if_neg hnok,if_neg (by decide)])
    clear hok h4 hnok
    go_wp2_with(refine wpList_whole rfl 32 _ rfl w.heap.size rfl W1.out _ Tryz.underlying32 rfl iR ?_)
    refine(HGD.out _).mono ?_
    rintro e w2 ⟨rfl,hb⟩
    have X1:=Lib.hid (W1.out.below hb W1.out.lt)
    have X2:=Lib.hid (W2.out.below hb W2.out.lt)
    have X3:=Lib.hid (W3.out.below hb W3.out.lt)
    have XB:=Lib.hid (onward WB.out (Nat.le_refl _) hb)
    have y1:=X2.out.cell 1
    have y2:=X2.out.cell 2
    simp only [List.getElem?_toArray,List.getElem?_cons_zero,List.getElem?_cons_succ]at y1 y2
    have zR2:(#[.bool false,.bool false,.bool false,.bool false,.int .i64 0,.int .i64 0,.int .i64 0,.int .i64 0,.int .i64 0,.int .i64 0,.int .i64 0,.int .i64 0]:Array Value).size=Ro.size:=zR
    clear hb W1 W2 W3 WB HGD
    rw [←HRo.out]at X1
    obtain⟨ag,hag⟩:∃ag:Nat→Bool,(fun i=>bs.getD i false)=ag:=⟨_,rfl⟩
    have HAGG:=Lib.hid hag
    clear hag
    have h4:=H4.out
    go_wp2_with fail
    go_loopw [7,26] (fun l i wr=>∃(k n:Nat) (A':Option Addr) (c':Nat),k≤4∧i=.int .i64 k∧l=.slice A' n c'∧n=(many s ag k).2.length∧Blk wr w.heap.size 32 (many s ag k).1.row∧Blk wr (w.heap.size+1) 37 #[.int .i64 v,.bool true,.slice A bs.length c]∧Blk wr (w.heap.size+1+1) 32 #[.bool false,.bool false,.bool false,.bool false,.int .i64 0,.int .i64 0,.int .i64 0,.int .i64 0,.int .i64 0,.int .i64 0,.int .i64 0,.int .i64 0]∧wr.ownsRow (w.heap.size+1+1+1) 132 2 (.slice A' n c') n (changesV (many s ag k).2)∧Below w.heap.size w wr) (fun _ i _=>4-(intOf i).toNat)
    case atStart=>exact⟨0,0,none,0,by omega,rfl,rfl,rfl,X1.out,X2.out,X3.out,World.ownsRow_nil _ _ _ _,XB.out⟩
    case round=>
     clear X1 X2 X3 XB
     obtain⟨k,n,A',c',hk,rfl,rfl,hn,r1,r2,r3,hlist,rb⟩:=hrel
     have hnl:=many_len s ag k
     rw [←hn]at hnl
     have HN2:=Lib.hid hn.symm
     have R1:=Lib.hid r1
     have R2:=Lib.hid r2
     have R3:=Lib.hid r3
     have HL:=Lib.hid hlist
     have RB:=Lib.hid rb
     clear r1 r2 r3 hlist rb hn
     by_cases hlt:k<4
     ·
      obtain⟨b0,o,u,rfl,hbB,hu,hcell⟩:=(HR.out.below (RB.out.mono hB)).at (show k<bs.length by omega)
      rw [boolsV_at bs k (by omega)]at hu
      have hu:=(Option.some.inj hu).symm
      subst hu
      have HAG:=Lib.hid (show ag k=bs[k]'(by omega)by rw [←HAGG.out];simp [List.getD,show k<bs.length by omega])
      generalize bs[k]'_=b at*
      have hk0:(0:Int)≤(k:Int):=by omega
      have hk1:(k:Int)<(bs.length:Int):=by omega
      have hk4:(k:Int)<4:=by omega
      cases hf:(many s ag k).1.f k with
      |true=>
       have x0: wr.cell? ⟨w.heap.size,k,none⟩=some (.bool true):=by rw [R1.out.cell];unfold RS.row;rw [row_at (by omega),rollF_in hlt,hf]
       go_wp2_with fail
       refine(stay_any (many s ag k).1 k hlt b hf (many_good s ag k k (Nat.le_refl _) (HOK.out k hlt)) w.heap.size wr R1.out).mono ?_
       rintro e w3 ⟨out,rfl,hone,hbk,hgr⟩
       have hag:ag k=b:=HAG.out
       rw [←hag]at hone hbk
       have HL:=Lib.hid (Ms.own_kept HL.out hgr (fun q e=>by injection e with e;subst e;exact⟨_,_,R1.out,by decide⟩))
       have R1:Hid (Blk w3 w.heap.size 32 (many s ag (k+1)).1.row):=Lib.hid hbk
       have R2:=Lib.hid (R2.out.grown hgr (by intro h;injection h;omega))
       have R3:=Lib.hid (R3.out.grown hgr (by intro h;injection h;omega))
       have RB:=Lib.hid (RB.out.grown hgr RB.out.size (fun q e=>by injection e with e;omega))
       cases out with
       |false=>
        have HONE:=Lib.hid (show(one (many s ag k).1 k (ag k)).2=[]from hone)
        clear hone hbk hgr hag
        go_wp2_with fail
        refine⟨⟨k+1,n,A',c',by omega,by go_num,rfl,?_,R1.out,R2.out,R3.out,?_,RB.out⟩,by simp [intOf];omega⟩
        · rw [many_succ,HONE.out,List.append_nil,HN2.out]
        · rw [many_succ,HONE.out,List.append_nil];exact HL.out
       |true=>
        have HONE:=Lib.hid (show(one (many s ag k).1 k (ag k)).2=[(1,(k:Int))]from hone)
        clear hone hbk hgr hag
        have HN:Hid (Rd (w3.alloc (.cells #[.int .i64 1,.int .i64 (k:Int)] 132)) (w3.heap.size+1) 2 (some ⟨w3.heap.size,0,none⟩) 1 [.int .i64 1,.int .i64 (k:Int)]):=Lib.hid (rd_two _ _ _ _)
        have hb3:Below w3.heap.size w3 (w3.alloc (.cells #[.int .i64 1,.int .i64 (k:Int)] 132)):=(Below.refl _ _).alloc (Nat.le_refl _) _
        have HQ:=Lib.hid (ownsRow_below HL.out hb3)
        have Q1:=Lib.hid (R1.out.below hb3 R1.out.lt)
        have Q2:=Lib.hid (R2.out.below hb3 R2.out.lt)
        have Q3:=Lib.hid (R3.out.below hb3 R3.out.lt)
        have QB:=Lib.hid (onward RB.out (Nat.le_refl _) hb3)
        have HBS:=Lib.hid (show w.heap.size+1+1+1≤(w3.alloc (.cells #[.int .i64 1,.int .i64 (k:Int)] 132)).heap.size from Q3.out.lt)
        clear hb3
        go_wp2_with(at_builtin;refine wpList_append_rd _ rfl (.tmp 39) (.tmp 42) 108 rfl (base:=w.heap.size+1+1+1) elemCh rfl HQ.out rfl (fun h=>by cases h) HN.out (by simp [Value.oneCell']) (by unfold maxLen;omega) (by omega) HBS.out ?_;intro A4 c4 w4 hA4 hown hgr;have HO4:=Lib.hid hown;have HG4:=Lib.hid hgr;clear hown hgr hA4)
        have hnb:∀g,g<w.heap.size+1+1+1→some g≠(Value.slice A' n c').ownBlock:=fun g hg e=>by have:=(HQ.out.lt g e.symm).1;omega
        refine⟨⟨k+1,n+1,A4,c4,by omega,by go_num,rfl,?_,Q1.out.grown HG4.out (hnb _ (by omega)),Q2.out.grown HG4.out (hnb _ (by omega)),Q3.out.grown HG4.out (hnb _ (by omega)),?_,QB.out.grown HG4.out QB.out.size (fun g e=>by have:=(HQ.out.lt g e).1;omega)⟩,by simp [intOf];omega⟩
        · rw [many_succ,HONE.out,List.length_append,HN2.out];rfl
        · rw [many_succ,HONE.out,changesV_snoc];exact HO4.out
      |false=>
       have x0: wr.cell? ⟨w.heap.size,k,none⟩=some (.bool false):=by rw [R1.out.cell];unfold RS.row;rw [row_at (by omega),rollF_in hlt,hf]
       go_wp2_with fail
       refine(wait_any (many s ag k).1 k hlt b hf (many_good s ag k k (Nat.le_refl _) (HOK.out k hlt)) w.heap.size wr R1.out).mono ?_
       rintro e w3 ⟨out,rfl,hone,hbk,hgr⟩
       have hag:ag k=b:=HAG.out
       rw [←hag]at hone hbk
       have HL:=Lib.hid (Ms.own_kept HL.out hgr (fun q e=>by injection e with e;subst e;exact⟨_,_,R1.out,by decide⟩))
       have R1:Hid (Blk w3 w.heap.size 32 (many s ag (k+1)).1.row):=Lib.hid hbk
       have R2:=Lib.hid (R2.out.grown hgr (by intro h;injection h;omega))
       have R3:=Lib.hid (R3.out.grown hgr (by intro h;injection h;omega))
       have RB:=Lib.hid (RB.out.grown hgr RB.out.size (fun q e=>by injection e with e;omega))
       cases out with
       |false=>
        have HONE:=Lib.hid (show(one (many s ag k).1 k (ag k)).2=[]from hone)
        clear hone hbk hgr hag
        go_wp2_with fail
        refine⟨⟨k+1,n,A',c',by omega,by go_num,rfl,?_,R1.out,R2.out,R3.out,?_,RB.out⟩,by simp [intOf];omega⟩
        · rw [many_succ,HONE.out,List.append_nil,HN2.out]
        · rw [many_succ,HONE.out,List.append_nil];exact HL.out
       |true=>
        have HONE:=Lib.hid (show(one (many s ag k).1 k (ag k)).2=[(2,(k:Int))]from hone)
        clear hone hbk hgr hag
        have HN:Hid (Rd (w3.alloc (.cells #[.int .i64 2,.int .i64 (k:Int)] 132)) (w3.heap.size+1) 2 (some ⟨w3.heap.size,0,none⟩) 1 [.int .i64 2,.int .i64 (k:Int)]):=Lib.hid (rd_two _ _ _ _)
        have hb3:Below w3.heap.size w3 (w3.alloc (.cells #[.int .i64 2,.int .i64 (k:Int)] 132)):=(Below.refl _ _).alloc (Nat.le_refl _) _
        have HQ:=Lib.hid (ownsRow_below HL.out hb3)
        have Q1:=Lib.hid (R1.out.below hb3 R1.out.lt)
        have Q2:=Lib.hid (R2.out.below hb3 R2.out.lt)
        have Q3:=Lib.hid (R3.out.below hb3 R3.out.lt)
        have QB:=Lib.hid (onward RB.out (Nat.le_refl _) hb3)
        have HBS:=Lib.hid (show w.heap.size+1+1+1≤(w3.alloc (.cells #[.int .i64 2,.int .i64 (k:Int)] 132)).heap.size from Q3.out.lt)
        clear hb3
        go_wp2_with(at_builtin;refine wpList_append_rd _ rfl (.tmp 48) (.tmp 51) 108 rfl (base:=w.heap.size+1+1+1) elemCh rfl HQ.out rfl (fun h=>by cases h) HN.out (by simp [Value.oneCell']) (by unfold maxLen;omega) (by omega) HBS.out ?_;intro A4 c4 w4 hA4 hown hgr;have HO4:=Lib.hid hown;have HG4:=Lib.hid hgr;clear hown hgr hA4)
        have hnb:∀g,g<w.heap.size+1+1+1→some g≠(Value.slice A' n c').ownBlock:=fun g hg e=>by have:=(HQ.out.lt g e.symm).1;omega
        refine⟨⟨k+1,n+1,A4,c4,by omega,by go_num,rfl,?_,Q1.out.grown HG4.out (hnb _ (by omega)),Q2.out.grown HG4.out (hnb _ (by omega)),Q3.out.grown HG4.out (hnb _ (by omega)),?_,QB.out.grown HG4.out QB.out.size (fun g e=>by have:=(HQ.out.lt g e).1;omega)⟩,by simp [intOf];omega⟩
        · rw [many_succ,HONE.out,List.length_append,HN2.out];rfl
        · rw [many_succ,HONE.out,changesV_snoc];exact HO4.out
     ·
      obtain rfl:k=4:=by omega
      clear hlt
      obtain⟨R4,hR4⟩:∃R4,(many s ag 4).1.row=R4:=⟨_,rfl⟩
      have i4:(Tryz.prog.info? 32).map (·.size)=some R4.size:=by rw [←hR4];exact IS.out _
      have z4:(#[.bool false,.bool false,.bool false,.bool false,.int .i64 0,.int .i64 0,.int .i64 0,.int .i64 0,.int .i64 0,.int .i64 0,.int .i64 0,.int .i64 0]:Array Value).size=R4.size:=by rw [←hR4];exact ZS.out _
      have o4:R4.all (·.oneCell')=true:=by rw [←hR4];exact row_roll_one _
      rw [hR4]at R1
      have HR4:=Lib.hid hR4
      clear hR4
      go_wp2_with(first
       |(refine wpList_whole rfl 32 _ rfl w.heap.size rfl R1.out _ Tryz.underlying32 rfl i4 ?_)
       |(refine wpList_store_row rfl 32 _ _ rfl (w.heap.size+1+1) R4 rfl rfl 32 _ R3.out i4 z4 o4 ?_))
      refine ret_row3 (x:=.slice A' n c') (y:=.int .i64 0) rfl rfl rfl rfl (R3.out.setRow R4) ⟨by rw [Tryz.underlying32],i4⟩ rfl ?_
      rw [HSR.out,HAGG.out]
      have hfin:=own_setRow HL.out (show w.heap.size+1+1<w.heap.size+1+1+1 by omega) R4
      refine⟨A',c',?_,?_,below_setRow RB.out (by omega) _,(own_cap hfin).1⟩
      · dsimp only;rw [HR4.out,HN2.out]
      · dsimp only;rw [HN2.out];exact Rd.of_own hfin
 ·
  have e4:((bs.length:Int)!=4)=true:=by simp [bne];omega
  have HSR:=Lib.hid (show stepR s st bs=(zeroRS,[],8)by unfold stepR;rw [if_pos h4])
  clear h4
  go_wp2_with(refine wpList_store_row rfl 32 _ _ rfl (w.heap.size+1+1) #[.bool false,.bool false,.bool false,.bool false,.int .i64 0,.int .i64 0,.int .i64 0,.int .i64 0,.int .i64 0,.int .i64 0,.int .i64 0,.int .i64 0] rfl rfl 32 _ W3.out iZ rfl oZ ?_)
  refine ret_row3 (x:=.slice none 0 0) (y:=.int .i64 8) rfl rfl rfl rfl (W3.out.setRow #[.bool false,.bool false,.bool false,.bool false,.int .i64 0,.int .i64 0,.int .i64 0,.int .i64 0,.int .i64 0,.int .i64 0,.int .i64 0,.int .i64 0]) ⟨by rw [Tryz.underlying32],iZ⟩ rfl ?_
  rw [HSR.out]
  exact⟨none,0,by rw [HZo.out];rfl,Rd.nil _ _ _ _,below_setRow WB.out (by omega) _,fun _=>rfl⟩
end Nd
namespace Nd
open Go.RowKit Mem Rws Flat
def heardZ (f:Nat→Value) (s:Nat):Int:=iv (f (51+s))
def inB (f:Nat→Value) (i:Nat):Bool:=bv (f (27+i))
def digestsZ (k:Nat) (fr:Int) (ms:List Ms.Msg) (f:Nat→Value) (s:Nat):Int:=takenZ k s (heardZ f s) s (fun i=>Ms.firstOf (k:Int) fr 2 4 (i:Int) ms)
def rollOf (f:Nat→Value):RS:=⟨inB f,fun i=>iv (f (31+i)),fun i=>iv (f (35+i))⟩
def voteF (f:Nat→Value) (v:Int) (st:Bool) (i:Nat):Value:=if i=71 then .int .i64 v else if i=72 then .bool st else f i
def agreeL (L:Nat→Int) (I:Nat→Bool):List Bool:=(List.range 4).map fun i=>Vt.agrees L I i
def judgeR (L:Nat→Int) (f:Nat→Value):RS×List (Int×Int)×Int:=stepR (rollOf f) (Vt.strong L (inB f)) (agreeL L (inB f))
def judgeF (L:Nat→Int) (f:Nat→Value):Nat→Value:=
 if(judgeR L f).2.2=0 then rollW (voteF f (Vt.val L (inB f)) (Vt.strong L (inB f))) (judgeR L f).1 else voteF f (Vt.val L (inB f)) (Vt.strong L (inB f))
theorem vote_row (f:Nat→Value) (S:Value) (v:Int) (st:Bool) (A:Option Addr) (n c:Nat):row 74 (over 71 3 (fun i=>if i=0 then .int .i64 v else if i=1 then .bool st else .slice A n c) (nodeW f S))=row 74 (nodeW (voteF f v st) (.slice A n c)):=row_congr fun i hi=>by
 by_cases h:71≤i
 ·
  obtain rfl|rfl|rfl:i=71∨i=72∨i=73:=by omega
  all_goals rfl
 ·
  rw [over_out (by omega)]
  unfold nodeW voteF
  rw [if_neg (by omega),if_neg (by omega),if_neg (by omega),if_neg (by omega)]
theorem ver_one (v:Int) (st:Bool) (A:Option Addr) (n c i:Nat):(if i=0 then Value.int .i64 v else if i=1 then .bool st else .slice A n c).oneCell'=true:=by split;rfl;split<;>rfl
theorem ver_load (f:Nat→Value) (v:Int) (st:Bool) (A:Option Addr) (n c:Nat):(row 3 fun j=>nodeW (voteF f v st) (.slice A n c) (71+j))=verC v st A n c:=rfl
theorem in_load {f:Nat→Value} (hf:∀i,i<73→okT (nodeT i) (f i)) (S:Value):(row 4 fun j=>nodeW f S (27+j))=row 4 fun i=>.bool (inB f i):=row_congr fun i hi=>by
 unfold nodeW
 rw [if_neg (by omega)]
 exact node_bool hf (27+i) (by omega) (by omega)
theorem roll_load {f:Nat→Value} (hf:∀i,i<73→okT (nodeT i) (f i)) (v:Int) (st:Bool) (S:Value):(row 12 fun j=>nodeW (voteF f v st) S (27+j))=(rollOf f).row:=row_congr fun i hi=>by
 unfold nodeW voteF
 rw [if_neg (by omega),if_neg (by omega),if_neg (by omega)]
 unfold rollOf rollF
 by_cases h1:i<4
 ·
  rw [if_pos h1]
  exact node_bool hf (27+i) (by omega) (by omega)
 ·
  rw [if_neg h1]
  by_cases h2:i<8
  ·
   rw [if_pos h2,show 27+i=31+(i-4)by omega]
   exact node_int hf (31+(i-4)) (by omega) (by omega)
  ·
   rw [if_neg h2,show 27+i=35+(i-8)by omega]
   exact node_int hf (35+(i-8)) (by omega) (by omega)
theorem ok_vote {f:Nat→Value} (hf:∀i,i<73→okT (nodeT i) (f i)) (v:Int) (st:Bool):∀i,i<73→okT (nodeT i) (voteF f v st i):=fun i hi=>by
 unfold voteF
 by_cases h1:i=71
 · subst h1;exact⟨v,rfl⟩
 ·
  rw [if_neg h1]
  by_cases h2:i=72
  · subst h2;exact⟨st,rfl⟩
  · rw [if_neg h2];exact hf i hi
theorem ok_judge {f:Nat→Value} (hf:∀i,i<73→okT (nodeT i) (f i)) (L:Nat→Int):∀i,i<73→okT (nodeT i) (judgeF L f i):=by
 unfold judgeF
 split
 · exact ok_rollW (ok_vote hf _ _) _
 · exact ok_vote hf _ _
theorem judge_low (L:Nat→Int) (f:Nat→Value) (i:Nat) (h:i<27):judgeF L f i=f i:=by
 unfold judgeF
 split
 · unfold rollW;rw [if_neg (by omega)];unfold voteF;rw [if_neg (by omega),if_neg (by omega)]
 · unfold voteF;rw [if_neg (by omega),if_neg (by omega)]
theorem maj_mem (l:List Int) (o:Int):MajLaw.maj l o=o∨MajLaw.maj l o∈l:=by
 unfold MajLaw.maj
 split
 ·
  next h=>
  right
  refine List.count_pos_iff.1 ?_
  show 0<MajLaw.cnt (MajLaw.left l).2 l
  omega
 · exact .inl rfl
def Wf (z:Int):Prop:=(Lit.int .i64 z).wf=true
theorem wf_zero:Wf 0:=by unfold Wf;rfl
theorem wf_numAt {k:Nat} {o:Option Ms.Msg} (h:∀m,o=some m→∀z∈m.zs,Wf z):Wf (numAt k o):=by
 cases o with
 |none=>exact wf_zero
 |some m=>
  show Wf (m.zs.getD k 0)
  rw [List.getD_eq_getElem?_getD]
  cases e:m.zs[k]? with
  |none=>exact wf_zero
  |some z=>exact h m rfl z (List.mem_of_getElem? e)
theorem wf_taken {id ab:Nat} {hd:Int} {k:Nat} {o:Nat→Option Ms.Msg} (hh:Wf hd) (h:∀i m,o i=some m→∀z∈m.zs,Wf z):Wf (takenZ id ab hd k o):=by
 unfold takenZ
 split
 · exact hh
 ·
  rcases maj_mem (hd::toldL id ab k o 4) 0 with e|e
  · rw [e];exact wf_zero
  ·
   generalize MajLaw.maj (hd::toldL id ab k o 4) 0=x at*
   rcases List.mem_cons.1 e with e|e
   · rw [e];exact hh
   ·
    unfold toldL Av.toldF at e
    obtain⟨p,hp,e⟩:=List.mem_map.1 e
    rw [←e]
    exact wf_numAt fun m hm=>h p m hm
theorem wf_digests {f:Nat→Value} (hf:∀i,i<73→okT (nodeT i) (f i)) (hw:∀i z,i<73→f i=.int .i64 z→Wf z) {ms:List Ms.Msg} (hm:∀m∈ms,∀z∈m.zs,Wf z) (k:Nat) (fr:Int):∀i,i<4→Wf (digestsZ k fr ms f i):=fun i hi=>by
 unfold digestsZ
 refine wf_taken ?_ fun j m h=>hm m (List.mem_of_find?_eq_some h)
 have e:nodeT (51+i)=true:=by unfold nodeT;simp;omega
 have h:=hf (51+i) (by omega)
 rw [e]at h
 exact hw (51+i) _ (by omega) (iv_of h)
end Nd
namespace Sl
open Go.Shelf
def sort_lay_ren:Go.Shelf.Ren:=⟨fun|5=>98|8=>122|7=>121|19=>142|20=>115|10=>133|11=>134|12=>135|13=>136|14=>137|15=>138|16=>139|17=>140|18=>141|30=>144|31=>145|32=>146|33=>147|34=>148|35=>149|40=>150|n=>n,fun|23=>70|25=>3|3=>3|32=>61|22=>70|0=>0|44=>166|46=>59|4=>4|36=>212|35=>211|41=>139|5=>5|9=>9|53=>220|57=>223|63=>225|64=>226|n=>n,fun|n=>n⟩
theorem sort_lay:Go.Proofs.SlLaysM.n5 Tryz.prog sort_lay_ren:={
 mixed:=by kernel_rfl
 f5:=⟨Tryz.f98.name,by decide,Tryz.func98.trans (congrArg some (by kernel_rfl))⟩
 f7:=⟨Tryz.f121.name,by decide,Tryz.func121.trans (congrArg some (by kernel_rfl))⟩
 f8:=Tryz.func122.trans (congrArg some (by kernel_rfl))
 f10:=⟨Tryz.f133.name,by decide,Tryz.func133.trans (congrArg some (by kernel_rfl))⟩
 f11:=⟨Tryz.f134.name,by decide,Tryz.func134.trans (congrArg some (by kernel_rfl))⟩
 f12:=⟨Tryz.f135.name,by decide,Tryz.func135.trans (congrArg some (by kernel_rfl))⟩
 f13:=⟨Tryz.f136.name,by decide,Tryz.func136.trans (congrArg some (by kernel_rfl))⟩
 f14:=⟨Tryz.f137.name,by decide,Tryz.func137.trans (congrArg some (by kernel_rfl))⟩
 f15:=⟨Tryz.f138.name,by decide,Tryz.func138.trans (congrArg some (by kernel_rfl))⟩
 f16:=⟨Tryz.f139.name,by decide,Tryz.func139.trans (congrArg some (by kernel_rfl))⟩
 f17:=⟨Tryz.f140.name,by decide,Tryz.func140.trans (congrArg some (by kernel_rfl))⟩
 f18:=⟨Tryz.f141.name,by decide,Tryz.func141.trans (congrArg some (by kernel_rfl))⟩
 f19:=Tryz.func142.trans (congrArg some (by kernel_rfl))
 f20:=Tryz.func115.trans (congrArg some (by kernel_rfl))
 f30:=⟨Tryz.f144.name,by decide,Tryz.func144.trans (congrArg some (by kernel_rfl))⟩
 f31:=Tryz.func145.trans (congrArg some (by kernel_rfl))
 f32:=Tryz.func146.trans (congrArg some (by kernel_rfl))
 f33:=⟨Tryz.f147.name,by decide,Tryz.func147.trans (congrArg some (by kernel_rfl))⟩
 f34:=⟨Tryz.f148.name,by decide,Tryz.func148.trans (congrArg some (by kernel_rfl))⟩
 f35:=⟨Tryz.f149.name,by decide,Tryz.func149.trans (congrArg some (by kernel_rfl))⟩
 f40:=⟨Tryz.f150.name,by decide,Tryz.func150.trans (congrArg some (by kernel_rfl))⟩
 t0:=Tryz.underlying0
 a0:=Tryz.isAgg0
 z0:=Tryz.sizeOf0
 v0:=Tryz.zeroValue0
 t3:=Tryz.underlying3
 a3:=Tryz.isAgg3
 z3:=Tryz.sizeOf3
 v3:=Tryz.zeroValue3
 t4:=Tryz.underlying4
 a4:=Tryz.isAgg4
 z4:=Tryz.sizeOf4
 v4:=Tryz.zeroValue4
 t5:=Tryz.underlying5
 a5:=Tryz.isAgg5
 z5:=Tryz.sizeOf5
 v5:=Tryz.zeroValue5
 t9:=Tryz.underlying9
 a9:=Tryz.isAgg9
 z9:=Tryz.sizeOf9
 v9:=Tryz.zeroValue9
 t22:=Tryz.underlying70
 a22:=Tryz.isAgg70
 z22:=Tryz.sizeOf70
 v22:=Tryz.zeroValue70
 t23:=Tryz.underlying70
 a23:=Tryz.isAgg70
 z23:=Tryz.sizeOf70
 v23:=Tryz.zeroValue70
 t25:=Tryz.underlying3
 a25:=Tryz.isAgg3
 z25:=Tryz.sizeOf3
 v25:=Tryz.zeroValue3
 t32:=Tryz.underlying61
 a32:=Tryz.isAgg61
 z32:=Tryz.sizeOf61
 v32:=Tryz.zeroValue61
 t35:=Tryz.underlying211
 a35:=Tryz.isAgg211
 z35:=Tryz.sizeOf211
 v35:=Tryz.zeroValue211
 t36:=Tryz.underlying212
 a36:=Tryz.isAgg212
 z36:=Tryz.sizeOf212
 v36:=Tryz.zeroValue212
 t41:=Tryz.underlying139
 a41:=Tryz.isAgg139
 z41:=Tryz.sizeOf139
 v41:=Tryz.zeroValue139
 t44:=Tryz.underlying166
 a44:=Tryz.isAgg166
 z44:=Tryz.sizeOf166
 v44:=Tryz.zeroValue166
 t46:=Tryz.underlying59
 a46:=Tryz.isAgg59
 z46:=Tryz.sizeOf59
 v46:=Tryz.zeroValue59
 t53:=Tryz.underlying220
 a53:=Tryz.isAgg220
 z53:=Tryz.sizeOf220
 v53:=Tryz.zeroValue220
 t57:=Tryz.underlying223
 a57:=Tryz.isAgg223
 z57:=Tryz.sizeOf223
 v57:=Tryz.zeroValue223
 t63:=Tryz.underlying225
 a63:=Tryz.isAgg225
 z63:=Tryz.sizeOf225
 v63:=Tryz.zeroValue225
 t64:=Tryz.underlying226
 a64:=Tryz.isAgg226
 z64:=Tryz.sizeOf226
 v64:=Tryz.zeroValue226 }
end Sl
namespace Fc
open Go.RowKit Mem
section
variable {n l : Nat} {P : Program} {ops : Array Oper} {Q : Exit → Act → World → Prop}
theorem wpListIn_of (hlo:¬LetsOut Q):∀(rest:List Oper),(∀o∈rest,∀c,o.op≠ .defer c)→∀(a:Act) (w:World),wpList P ops Q rest a w→wpListIn (Fence.wide.inRound l) n P ops Q rest a w
 |[],_,_,_,h=>h
 |o::rest,hd,a,w,h=>by
  unfold wpList at h
  unfold wpListIn
  split
  ·
   rename_i hw
   rw [if_pos hw]at h
   have h1:=h.resolve_right fun x=>hlo x.2
   have h2:=wpIn_of_wp (n:=n) (l:=l) (fun c=>hd o (List.mem_cons_self) c) h1
   exact Oper.wpIn_mono (fun a' w' h'=>wpListIn_of hlo rest (fun o' ho'=>hd o' (List.mem_cons_of_mem _ ho')) a' w' h') h2
  ·
   rename_i hw
   rw [if_neg hw]at h
   exact⟨fun _ _=>trivial,wpListIn_of hlo rest (fun o' ho'=>hd o' (List.mem_cons_of_mem _ ho')) _ _ h⟩
theorem regionIn {id:Nat} {a:Act} {w:World} (hd:ops.toList.all (fun o=>match o.op with| .defer _=>false|_=>true)=true) (h:wpList P ops (Norm (Q .normal)) ops.toList a w):(Code.region id ops false).wpIn (Fence.wide.inRound l) n P Q a w:=
 wpIn_mono (wpIn_region_list (wpListIn_of (norm_no _) _ (fun o ho c e=>by
  have h1:=List.all_eq_true.1 hd o ho
  rw [e]at h1
  cases h1) _ _ h)) norm_imp
end
theorem rd_one (w:World) (v:Value) (e:TypeId):Rd (w.alloc (.cells #[v] e)) (w.heap.size+1) 1 (some ⟨w.heap.size,0,none⟩) 1 [v]:=by
 refine⟨rfl,fun _=>⟨w.heap.size,0,rfl,by omega,fun j u hu=>?_⟩⟩
 have h:=(Blk.fresh w e #[v]).cell j
 rw [Nat.zero_add,h]
 simpa using hu
theorem grown_blk {W W':World} {row:Option Nat} {B g:Nat} {t:TypeId} {cs:Array Value} (h:Blk W g t cs) (hg:W.grownBy W' row) (hr:∀r,row=some r→B≤r∧∃o:Obj,W.heap[r]?=some o∧o.isCells=false):Blk W' g t cs:=
 h.grown hg fun e=>by
  obtain⟨_,o,ho,hc⟩:=hr g e.symm
  unfold Blk at h
  rw [h]at ho
  cases ho
  cases hc
theorem grown_own {W W':World} {row:Option Nat} {B base:Nat} {e:TypeId} {size:Nat} {v:Value} {n:Nat} {xs:List Value} (h:W.ownsRow base e size v n xs) (hg:W.grownBy W' row) (hr:∀r,row=some r→B≤r∧∃o:Obj,W.heap[r]?=some o∧o.isCells=false):W'.ownsRow base e size v n xs:=by
 have h':=h
 obtain⟨_,⟨hv,_⟩|⟨g,cap,cur,hv,_,hh,_⟩⟩:=h
 · exact h'.kept hg (.inl (by rw [hv];rfl))
 ·
  refine h'.kept hg (.inr fun e=>?_)
  rw [hv]at e
  obtain⟨_,o,ho,hc⟩:=hr g (by rw [←e];rfl)
  rw [hh]at ho
  cases ho
  cases hc
theorem put_own {W:World} {base D:Nat} {e:TypeId} {size:Nat} {v:Value} {n:Nat} {xs:List Value} (h:W.ownsRow base e size v n xs) (hD:W.heap[D]?=some (.deferred (some []))) (o:Obj):(W.putObj D o).ownsRow base e size v n xs:=by
 have h':=h
 obtain⟨_,⟨hv,_⟩|⟨g,cap,cur,hv,_,hh,_⟩⟩:=h
 · exact h'.kept (grownBy_putObj' W D o) (.inl (by rw [hv];rfl))
 ·
  refine h'.kept (grownBy_putObj' W D o) (.inr fun e=>?_)
  rw [hv]at e
  cases e
  rw [hh]at hD
  cases hD
end Fc
namespace So
open Go.RowKit Go.Shelf Mem Go.Proofs.YtljpoibnkkcjdaaGreatDoor.Ms
attribute [local go_sem] Oper.semAt_some
set_option maxRecDepth 100000 in
set_option maxHeartbeats 2000000 in
theorem values1_in (n:Nat) (hn:1≤n) (l Bs B cap:Nat) (A:Option Addr) (zs:List Int) (hreach:zs.length*8≤140737488351232) (hBs:Bs<B) (J Jx:List Int→World→Prop)
  (hY:∀(pre:List Int) (x:Int) (W:World),J pre W→pre.length<zs.length→YieldAt Fence.wide (n-1) Tryz.prog l #[.int .i64 x] W fun e W'=>
   (e=.returned (.bool true)∧J (pre++[x]) W'∧Below B W W')∨(e=.returned (.bool false)∧Jx (pre++[x]) W'))
  (W:World) (cs: W.cell? ⟨Bs,0,none⟩=some (.slice A zs.length cap)) (hr:Rd W B 1 A zs.length (intsV zs)) (h0:J [] W):
  CallsIn Fence.wide n Tryz.prog 99 #[.func (.yield l) #[] #[],.pointer (some ⟨Bs,0,none⟩)] W fun e W'=>(∃v,e=.returned v)∧
   ((∃ys,ys=zs∧J ys W')∨(∃pre,(∃i,pre=zs.take i)∧Jx pre W')):=by
 have HR:=Lib.hid hr
 clear hr
 refine callsIn_of_wp Tryz.func99 rfl trivial ?_ rfl
 simp only [Tryz.ntmps99,List.size_toArray,List.length_cons,List.length_nil,Nat.reduceAdd,Nat.reduceSub,Array.replicate_succ,Array.replicate_zero,List.push_toArray,List.append_toArray,List.nil_append,List.cons_append]
 gi_wp2
 gi_loopw [7] (fun iv wr=>∃i:Nat,i≤zs.length∧iv=.int .i64 (i:Nat)∧J (zs.take i) wr∧Below B W wr)
  (fun iv _=>zs.length-(intOf iv).toNat)
 case atStart=>exact⟨0,Nat.zero_le _,rfl,h0,Below.refl _ _⟩
 case round=>
  obtain⟨i,hi,rfl,hJs,hnx⟩:=hrel
  by_cases hlt:i<zs.length
  ·
   obtain⟨b,o,u,rfl,hbB,hu,hcell⟩:=(HR.out.below hnx).at hlt
   rw [intsV_at zs i hlt]at hu
   obtain rfl:=Option.some.inj hu
   obtain⟨fn,tmps,assign,body,hy,hR⟩:=hY _ zs[i] wr hJs (by rw [List.length_take];omega)
   have HT:=Lib.hid (show zs.take (i+1)=zs.take i++[zs[i]]by rw [List.take_add_one,List.getElem?_eq_getElem hlt];rfl)
   clear hu
   generalize zs[i]=z at*
   have hl0:(0:Int)≤(i:Int):=by omega
   have hl1:(i:Int)<(zs.length:Int):=by omega
   gi_wp2
   refine hR.mono ?_
   rintro e W3 (⟨rfl,hJ3,hk3⟩|⟨rfl,hJx3⟩)
   ·
    gi_wp2
    go_roundw
    case rel=>exact⟨i+1,by omega,by go_num,by rw [HT.out];exact hJ3,hnx.trans hk3⟩
    case measure=>simp [intOf];omega
   ·
    gi_wp2
    refine bodyPost_ret (results_none rfl _ _ _) rfl ?_
    exact⟨⟨_,rfl⟩,.inr ⟨_,⟨i+1,HT.out.symm⟩,hJx3⟩⟩
  ·
   obtain rfl:i=zs.length:=by omega
   gi_wp2
   go_end0
   exact⟨⟨_,rfl⟩,.inl ⟨_,rfl,by rw [List.take_length]at hJs;exact hJs⟩⟩
set_option maxHeartbeats 1000000 in
theorem values_any (A:Option Addr) (len cap:Nat) (w:World):
  Calls Tryz.prog 76 #[.slice A len cap] w fun e w'=>e=.returned (.func (.func 99) #[] #[.pointer (some ⟨w.heap.size,0,none⟩)])∧w'=w.alloc (.cells #[.slice A len cap] 70):=by
 go_enter Tryz.func76,Tryz.ntmps76
 go_wp2_with fail
 go_ret
 exact⟨rfl,rfl⟩
theorem values_stops (n:Nat) (hn:1≤n) (Bs B cap:Nat) (A:Option Addr) (zs:List Int) (hreach:zs.length*8≤140737488351232) (hBs:Bs<B) (w:World) (hB:B≤w.heap.size)
  (cs: w.cell? ⟨Bs,0,none⟩=some (.slice A zs.length cap)) (hr:Rd w B 1 A zs.length (intsV zs)):
  SeqStopsK Fence.wide n Tryz.prog 99 #[.pointer (some ⟨Bs,0,none⟩)] (fun x:Int=>#[.int .i64 x]) (Below B) (fun ys=>ys=zs) (fun pre=>∃i,pre=zs.take i) zs.length w:=fun l J Jx W hW _ _ hY h0=>
 values1_in n hn l Bs B cap A zs hreach hBs J Jx hY W ((hW.cell (p:=⟨Bs,0,none⟩) (Nat.lt_of_lt_of_le hBs hB)).trans cs) (hr.below (hW.mono hB)) h0
def AppI (w W0:World) (bx:Nat) (pre:List Int) (W:World):Prop:=
 ∃A c,Blk W bx 70 #[.slice A pre.length c]∧W.ownsRow W0.heap.size 3 1 (.slice A pre.length c) pre.length (intsV pre)∧Below w.heap.size w W∧W0.heap.size≤W.heap.size
theorem appI_own (w W0:World) (bx:Nat) (h1:w.heap.size≤W0.heap.size):OwnFrom W0.heap.size (AppI w W0 bx):=by
 intro s X Y r ⟨A,c,a1,a2,a3,a4⟩ hg hr
 exact⟨A,c,Fc.grown_blk a1 hg hr,Fc.grown_own a2 hg hr,ownFrom_below (β:=Unit) (Nat.le_refl _) h1 () X Y r a3 hg hr,Nat.le_trans a4 hg.size⟩
set_option maxRecDepth 100000 in
set_option maxHeartbeats 4000000 in
theorem appendSeq_in (gf:Nat) (lb:Array Value) (eg:∀args w,(callFunc gf args).run Tryz.prog w=.ok (.enter gf args) w) (zs:List Int) (hl:zs.length≤1000) (Sp:List Int→Prop) (w:World)
  (hseq:∀w',Below w.heap.size w w'→SeqStopsK Fence.wide 2 Tryz.prog gf lb (fun x:Int=>#[.int .i64 x]) (Below w.heap.size) (fun ys=>ys=zs) Sp zs.length w'):
  Calls Tryz.prog 120 #[.slice none 0 0,.func (.func gf) #[] lb] w fun e w'=>∃A c,e=.returned (.slice A zs.length c)∧w'.ownsRow w.heap.size 3 1 (.slice A zs.length c) zs.length (intsV zs)∧Below w.heap.size w w':=by
 refine(callsIn_wide (n:=3)).1 ?_
 refine callsIn_of_wp_marks Tryz.func120 rfl trivial ?_ rfl
 simp only [Tryz.ntmps120,List.size_toArray,List.length_cons,List.length_nil,Nat.reduceAdd,Nat.reduceSub,Array.replicate_succ,Array.replicate_zero,List.push_toArray,List.append_toArray,List.nil_append,List.cons_append]
 refine wpIn_wide.2 ?_
 go_wp2_with fail
 have H2:=Lib.hid (Blk.fresh w 70 #[.slice none 0 0])
 have HB:=Lib.hid ((Below.refl w.heap.size w).alloc (Nat.le_refl _) (.cells #[.slice none 0 0] 70))
 have HSZ:=Lib.hid (show(w.alloc (.cells #[.slice none 0 0] 70)).heap.size=w.heap.size+1 by simp)
 generalize(w.alloc (.cells #[.slice none 0 0] 70))=W0 at*
 refine(wpIn_wide (n:=3)).1 ?_
 refine Fc.rangeF (F:=Fence.wide) (n:=3) (t:=7) (d:=5) rfl (by omega) (gf:=gf) (lb:=lb) rfl trivial eg (fun x:Int=>.int .i64 x) (hseq W0 HB.out)
  (fun h k=>h.trans k) (belowK_b (by rw [HSZ.out];omega)) (AppI w W0 w.heap.size) (appI_own w W0 w.heap.size HB.out.size) ?start ?assign ?body ?done
 case start=>exact⟨none,0,H2.out,World.ownsRow_nil _ _ _ _,HB.out,Nat.le_refl _⟩
 case assign=>
  intro l x W K hK
  simp only [List.setIfInBounds_toArray,List.set_cons_zero,List.set_cons_succ]at hK ⊢
  gi_wp2
  exact hK
 case body=>
  rintro l pre x W ⟨A,c,J2,JV,JB,JS⟩ hlen
  have H2:=Lib.hid (J2.alloc (.cells #[.int .i64 x] 3))
  have HV:=Lib.hid (Nd.ownsRow_below JV ((Below.refl W.heap.size W).alloc (Nat.le_refl _) (.cells #[.int .i64 x] 3)))
  have HX:=Lib.hid (JB.alloc JB.size (.cells #[.int .i64 x] 3))
  have HW:=Lib.hid ((Below.refl w.heap.size W).alloc JB.size (.cells #[.int .i64 x] 3))
  have HK:=Lib.hid (KeepsOthers.alloc W (.cells #[.int .i64 x] 3))
  have HS:=Lib.hid (Fc.rd_one W (.int .i64 x) 3)
  have HSL:=Lib.hid (show w.heap.size+1≤W.heap.size by have:=HSZ.out;omega)
  have x2:=J2.cell 0
  simp only [List.getElem?_toArray,List.getElem?_cons_zero]at x2
  clear J2 JV JB JS
  refine wpIn_block ?_
  refine Fc.regionIn (by rfl) ?_
  simp only [List.setIfInBounds_toArray,List.set_cons_zero,List.set_cons_succ]
  go_wp2_with(at_builtin;go_loud (refine wpList_append_rd _ rfl (.tmp 8) (.tmp 10) 70 rfl (base:=W0.heap.size) elemInts rfl HV.out rfl (fun h=>by cases h) HS.out (by simp [Value.oneCell']) (by unfold maxLen;omega) (by omega) (by have:=HSZ.out;have:=HSL.out;simp;omega) ?_);intro A9 c9 w5 hA9 hown2 hg2;have HO5:=Lib.hid hown2;have H25:=Lib.hid (H2.out.grown hg2 (fun e=>by have:=(HV.out.lt _ e.symm).1;have:=HSZ.out;omega));have HB5:=Lib.hid (HX.out.grown hg2 (by have:=HX.out.size;omega) (fun g e=>by have:=(HV.out.lt g e).1;have:=HSZ.out;omega));have HW5:=Lib.hid (HW.out.grown hg2 (by have:=HX.out.size;omega) (fun g e=>by have:=(HV.out.lt g e).1;have:=HSZ.out;omega));have HK5:=Lib.hid (HK.out.trans (KeepsOthers.of_grownBy hg2 (fun j o e ho=>by obtain⟨cur,t,h,_⟩:=own_is HV.out (t':=0) (by decide) j e;rw [h]at ho;cases ho;rfl)));have HZ5:=Lib.hid (Nat.le_trans (show W.heap.size+1≤_ by simp) hg2.size);clear hown2 hg2;have v5:=H25.out.cell 0;have f5:=H25.out.thaw 0;simp only [List.getElem?_toArray,List.getElem?_cons_zero]at v5)
  exact⟨HK5.out.trans (KeepsOthers.setCell _ _ _),HW5.out.setCell (p:=⟨w.heap.size,0,none⟩) (Nat.le_refl _) _,A9,c9,by rw [List.length_append];exact H25.out.set 0 _,by rw [List.length_append,show intsV (pre++[x])=intsV pre++[.int .i64 x]by simp [intsV]];exact ownsRow_setCell_below HO5.out (by show w.heap.size<W0.heap.size;have:=HSZ.out;omega) _,HB5.out.setCell (p:=⟨w.heap.size,0,none⟩) (Nat.le_refl _) _,by rw [World.size_setCell];have:=HZ5.out;have:=HSZ.out;have:=HSL.out;omega⟩
 case done=>
  rintro D xs W hD rfl ⟨A,c,J2,JV,JB,JS⟩ hK
  have x2:=J2.cell 0
  simp only [List.getElem?_toArray,List.getElem?_cons_zero]at x2
  have HB:=Lib.hid JB
  have HV:=Lib.hid JV
  have HK:=Lib.hid hK
  have HD:=Lib.hid (show w.heap.size≤D by have:=HSZ.out;omega)
  clear J2 JV JB JS hK hD
  go_wp2_with fail
  refine Fc.out_one HK.out ?_
  go_ret
  exact⟨A,c,rfl,own_weaken (Fc.put_own HV.out HK.out _) (by have:=HSZ.out;omega),HB.out.grown (grownBy_putObj' _ D _) HB.out.size (fun k e=>by cases e;exact HD.out)⟩
set_option maxRecDepth 100000 in
set_option maxHeartbeats 1000000 in
theorem collect_any (A:Option Addr) (cap:Nat) (zs:List Int) (hl:zs.length≤1000) (Bs:Nat) (w:World) (hBs:Bs<w.heap.size) (cs: w.cell? ⟨Bs,0,none⟩=some (.slice A zs.length cap)) (hr:Rd w w.heap.size 1 A zs.length (intsV zs)):
  Calls Tryz.prog 97 #[.func (.func 99) #[] #[.pointer (some ⟨Bs,0,none⟩)]] w fun e w'=>∃A c,e=.returned (.slice A zs.length c)∧w'.ownsRow w.heap.size 3 1 (.slice A zs.length c) zs.length (intsV zs)∧Below w.heap.size w w':=by
 have C:=Lib.hid (appendSeq_in 99 #[.pointer (some ⟨Bs,0,none⟩)] (enters_of Tryz.func99 (by kernel_rfl) rfl) zs hl (fun pre=>∃i,pre=zs.take i) w
  (fun w' hw'=>values_stops 2 (by omega) Bs w.heap.size cap A zs (by omega) hBs w' hw'.size ((hw'.cell (p:=⟨Bs,0,none⟩) hBs).trans cs) (hr.below hw')))
 clear cs hr
 go_enter Tryz.func97,Tryz.ntmps97
 go_wp2_with fail
 refine C.out.mono ?_
 rintro e w1 ⟨A1,c1,rfl,hown,hb⟩
 have HO:=Lib.hid hown
 clear hown C
 go_wp2_with fail
 go_ret
 exact⟨A1,c1,rfl,HO.out,hb⟩
end So
namespace Md
def srt (l:List Int):List Int:=l.mergeSort (fun x y=>decide (x≤y))
def lessN (l:List Int) (v:Int):Nat:=l.countP (fun w=>decide (w<v))
def sameN (l:List Int) (v:Int):Nat:=l.countP (fun w=>decide (w=v))
theorem srt_perm (l:List Int):(srt l).Perm l:=List.mergeSort_perm l _
theorem srt_len (l:List Int):(srt l).length=l.length:=(srt_perm l).length_eq
theorem srt_sorted (l:List Int):(srt l).Pairwise (fun x y=>x≤y):=by
 have h:=List.pairwise_mergeSort (le:=fun x y:Int=>decide (x≤y)) (fun a b c h1 h2=>by simp at*;omega) (fun a b=>by simp;omega) l
 exact h.imp (fun h=>by simpa using h)
theorem both (s:List Int) (v:Int):lessN s v+sameN s v=s.countP (fun w=>decide (w≤v)):=by
 unfold lessN sameN
 induction s with
 |nil=>rfl
 |cons x s ih=>
  simp only [List.countP_cons]
  have e:(if decide (x≤v)=true then 1 else 0)=(if decide (x<v)=true then 1 else 0)+(if decide (x=v)=true then 1 else 0):=by
   simp only [decide_eq_true_eq]
   split<;>split<;>split<;>omega
  omega
theorem nat_and_xor (a b:Nat):2*(a&&& b)+(a ^^^ b)=a+b:=by
 induction a using Nat.strongRecOn generalizing b with
 |_ a ih=>
  by_cases h0:a=0
  · subst h0;simp
  ·
   have h:=ih (a/2) (by omega) (b/2)
   have e1:(a&&& b)=2*(a/2&&& b/2)+(a%2&&& b%2):=by
    have d:(a&&& b)/2=a/2&&& b/2:=Nat.and_div_two
    have m:(a&&& b)%2=a%2&&& b%2:=by
     have:=Nat.and_mod_two_pow (a:=a) (b:=b) (n:=1);simpa using this
    omega
   have e2:(a ^^^ b)=2*(a/2 ^^^ b/2)+(a%2 ^^^ b%2):=by
    have d:(a ^^^ b)/2=a/2 ^^^ b/2:=Nat.xor_div_two
    have m:(a ^^^ b)%2=a%2 ^^^ b%2:=by
     have:=Nat.xor_mod_two_pow (a:=a) (b:=b) (n:=1);simpa using this
    omega
   have e3:2*(a%2&&& b%2)+(a%2 ^^^ b%2)=a%2+b%2:=by
    rcases Nat.mod_two_eq_zero_or_one a with x|x<;>rcases Nat.mod_two_eq_zero_or_one b with y|y<;>rw [x,y]<;>rfl
   omega
theorem top_and (a b:Nat):(a&&& b)/2 ^ 63=a/2 ^ 63&&& b/2 ^ 63:=Nat.and_div_two_pow
theorem top_xor (a b:Nat):(a ^^^ b)/2 ^ 63=a/2 ^ 63 ^^^ b/2 ^ 63:=Nat.xor_div_two_pow
theorem ofInt_nat {a:Int} {u:Nat} (h:a%18446744073709551616=(u:Int)):(BitVec.ofInt 64 a).toNat=u:=by
 rw [BitVec.toNat_ofInt]
 have:((2:Int) ^ 64)=18446744073709551616:=by decide
 omega
theorem and_xor (a b:Int) (ha: -9223372036854775808≤a∧a≤9223372036854775807) (hb: -9223372036854775808≤b∧b≤9223372036854775807):
  2*bits .and .i64 a b+bits .xor .i64 a b=a+b∧(-9223372036854775808≤bits .and .i64 a b∧bits .and .i64 a b≤9223372036854775807)∧(-9223372036854775808≤bits .xor .i64 a b∧bits .xor .i64 a b≤9223372036854775807):=by
 obtain⟨u,hu⟩:∃u:Nat,a%18446744073709551616=(u:Int):=⟨(a%18446744073709551616).toNat,by omega⟩
 obtain⟨v,hv⟩:∃v:Nat,b%18446744073709551616=(v:Int):=⟨(b%18446744073709551616).toNat,by omega⟩
 have e1:bits .and .i64 a b=IntKind.i64.wrap ((u&&& v:Nat):Int):=by
  show IntKind.i64.wrap (((BitVec.ofInt 64 a&&& BitVec.ofInt 64 b).toNat:Nat):Int)=_
  rw [BitVec.toNat_and,ofInt_nat hu,ofInt_nat hv]
 have e2:bits .xor .i64 a b=IntKind.i64.wrap ((u ^^^ v:Nat):Int):=by
  show IntKind.i64.wrap (((BitVec.ofInt 64 a ^^^ BitVec.ofInt 64 b).toNat:Nat):Int)=_
  rw [BitVec.toNat_xor,ofInt_nat hu,ofInt_nat hv]
 have hs:=nat_and_xor u v
 have ta:=top_and u v
 have tx:=top_xor u v
 have p63:(2:Nat) ^ 63=9223372036854775808:=by decide
 rw [p63]at ta tx
 rw [e1,e2,IntKind.wrap_i64,IntKind.wrap_i64]
 have hu2:u/9223372036854775808=0∨u/9223372036854775808=1:=by omega
 have hv2:v/9223372036854775808=0∨v/9223372036854775808=1:=by omega
 generalize(u&&& v)=A at*
 generalize(u ^^^ v)=X at*
 have hA:A≤u+v:=by omega
 rcases hu2 with p|p<;>rcases hv2 with q|q<;>rw [p,q]at ta tx<;>simp at ta tx<;>omega
theorem half_eq (a b:Int) (ha: -9223372036854775808≤a∧a≤9223372036854775807) (hb: -9223372036854775808≤b∧b≤9223372036854775807):
  bits .and .i64 a b+bits .xor .i64 a b/2=(a+b)/2:=by
 have h:=(and_xor a b ha hb).1
 omega
def midOf (l:List Int):Int:=((srt l).getD ((l.length-1)/3) 0+(srt l).getD (l.length-1-(l.length-1)/3) 0)/2
def midZ (l:List Int):Int×Int:=if l.length=0∨64<l.length then(0,8)else(midOf l,0)
theorem srt_mem {l:List Int} {k:Nat} (hk:k<l.length):(srt l).getD k 0∈l:=by
 have hs:k<(srt l).length:=by rw [srt_len];exact hk
 rw [List.getD_eq_getElem?_getD,List.getElem?_eq_getElem hs]
 exact(srt_perm l).mem_iff.1 (List.getElem_mem hs)
end Md
namespace BigLaw
def pw (k:Nat):Nat:=4294967296 ^ k
theorem pw_zero:pw 0=1:=rfl
theorem pw_succ (k:Nat):pw (k+1)=4294967296*pw k:=by unfold pw;rw [Nat.pow_succ,Nat.mul_comm]
theorem pw_pos (k:Nat):0<pw k:=Nat.pow_pos (by omega)
theorem pw_add (a b:Nat):pw (a+b)=pw a*pw b:=by unfold pw;exact Nat.pow_add _ _ _
theorem pw_le {a b:Nat} (h:a≤b):pw a≤pw b:=Nat.pow_le_pow_right (by omega) h
def valF (f:Nat→Nat):Nat→Nat
 |0=>0
 |n+1=>valF f n+f n*pw n
theorem valF_succ (f:Nat→Nat) (n:Nat):valF f (n+1)=valF f n+f n*pw n:=rfl
def val (l:List Nat):Nat:=valF (fun i=>l.getD i 0) l.length
def small (l:List Nat):Prop:=∀x∈l,x<4294967296
def trimd (l:List Nat):Prop:=0<l.length→l.getD (l.length-1) 0≠0
theorem valF_congr {f g:Nat→Nat} {n:Nat} (h:∀i,i<n→f i=g i):valF f n=valF g n:=by
 induction n with
 |zero=>rfl
 |succ n ih=>unfold valF;rw [ih (fun i hi=>h i (by omega)),h n (by omega)]
theorem valF_lt {f:Nat→Nat} {n:Nat} (h:∀i,i<n→f i<4294967296):valF f n<pw n:=by
 induction n with
 |zero=>simp [valF,pw]
 |succ n ih=>
  have h1:=ih (fun i hi=>h i (by omega))
  have h2:=h n (by omega)
  unfold valF
  rw [pw_succ]
  have h3:f n*pw n+pw n≤4294967296*pw n:=by
   have:(f n+1)*pw n≤4294967296*pw n:=Nat.mul_le_mul_right _ h2
   rwa [Nat.add_mul,Nat.one_mul]at this
  omega
theorem valF_mono {f:Nat→Nat} {a b:Nat} (h:a≤b):valF f a≤valF f b:=by
 induction b with
 |zero=>
      have:a=0:=by omega
      subst this;exact Nat.le_refl _
 |succ b ih=>
  by_cases e:a=b+1
  · subst e;exact Nat.le_refl _
  ·
   have:=ih (by omega)
   rw [valF_succ];omega
theorem valF_zeros {f:Nat→Nat} {a b:Nat} (h:a≤b) (hz:∀i,a≤i→i<b→f i=0):valF f b=valF f a:=by
 induction b with
 |zero=>
      have:a=0:=by omega
      subst this;rfl
 |succ b ih=>
  by_cases e:a=b+1
  · subst e;rfl
  ·
   rw [valF_succ,hz b (by omega) (by omega),Nat.zero_mul,Nat.add_zero]
   exact ih (by omega) (fun i h1 h2=>hz i h1 (by omega))
theorem valF_ge {f:Nat→Nat} {n i:Nat} (hi:i<n):f i*pw i≤valF f n:=by
 have h1:valF f (i+1)≤valF f n:=valF_mono hi
 rw [valF_succ]at h1
 omega
theorem val_ge {l:List Nat} (ht:trimd l) (h:0<l.length):pw (l.length-1)≤val l:=by
 have h1:=ht h
 have h2:l.getD (l.length-1) 0*pw (l.length-1)≤val l:=valF_ge (f:=fun i=>l.getD i 0) (i:=l.length-1) (by omega)
 have h3:1*pw (l.length-1)≤l.getD (l.length-1) 0*pw (l.length-1):=Nat.mul_le_mul_right _ (by omega)
 omega
theorem length_le {l:List Nat} (ht:trimd l) {k:Nat} (h:val l<pw k):l.length≤k:=by
 rcases Nat.eq_zero_or_pos l.length with h0|h0
 · omega
 ·
  have h1:=val_ge ht h0
  by_cases hk:l.length≤k
  · exact hk
  ·
   have:=pw_le (show k≤l.length-1 by omega)
   omega
theorem small_take {l:List Nat} (h:small l) (n:Nat):small (l.take n):=fun x hx=>h x (List.mem_of_mem_take hx)
def IsLen (x n:Nat):Prop:=(x=0→n=0)∧(0<x→0<n∧2 ^ (n-1)≤x∧x<2 ^ n)
theorem isLen_half {t n:Nat} (h:IsLen (t/2) n) (ht:t≠0):IsLen t (n+1):=by
 refine⟨fun h0=>absurd h0 ht,fun _=>⟨by omega,?_⟩⟩
 rcases Nat.eq_zero_or_pos (t/2)with h0|h0
 ·
  have:=h.1 h0
  subst this
  have:t=1:=by omega
  subst this
  decide
 ·
  obtain⟨h1,h2,h3⟩:=h.2 h0
  have e:n+1-1=(n-1)+1:=by omega
  rw [e,Nat.pow_succ,Nat.pow_succ]
  omega
theorem isLen_lt {x n k:Nat} (h:IsLen x n):n≤k↔x<2 ^ k:=by
 rcases Nat.eq_zero_or_pos x with h0|h0
 ·
  subst h0
  have:=h.1 rfl
  have:=Nat.two_pow_pos k
  omega
 ·
  obtain⟨h1,h2,h3⟩:=h.2 h0
  constructor
  ·
   intro hk
   have:2 ^ n≤2 ^ k:=Nat.pow_le_pow_right (by omega) hk
   omega
  ·
   intro hx
   have:2 ^ (n-1)<2 ^ k:=by omega
   have:=(Nat.pow_lt_pow_iff_right (by omega:1<2)).1 this
   omega
end BigLaw
namespace BigW
open Go.RowKit Mem BigLaw
def wordsV (l:List Nat):List Value:=l.map fun(x:Nat)=>Value.int .u32 (x:Int)
theorem wordsV_length (l:List Nat):(wordsV l).length=l.length:=by simp [wordsV]
structure Wd (w:World) (B:Nat) (A:Option Addr) (c:Nat) (l:List Nat):Prop where
 len:l.length≤c
 cap:c≤9223372036854775807
 none_:A=none→c=0
 rd:Rd w B 1 A l.length (wordsV l)
 small:small l
theorem Wd.below {w w':World} {B:Nat} {A:Option Addr} {c:Nat} {l:List Nat} (h:Wd w B A c l) (hb:Below B w w'):Wd w' B A c l:=⟨h.len,h.cap,h.none_,h.rd.below hb,h.small⟩
theorem Wd.more {w:World} {B B':Nat} {A:Option Addr} {c:Nat} {l:List Nat} (h:Wd w B A c l) (hb:B≤B'):Wd w B' A c l:=⟨h.len,h.cap,h.none_,h.rd.more hb,h.small⟩
theorem Wd.keep {w w':World} {B:Nat} {A:Option Addr} {c:Nat} {l:List Nat} (h:Wd w B A c l) (hk:∀b o,b<B→ w'.cell? ⟨b,o,none⟩= w.cell? ⟨b,o,none⟩):Wd w' B A c l:=⟨h.len,h.cap,h.none_,h.rd.keep hk,h.small⟩
theorem Wd.nil (w:World) (B:Nat):Wd w B none 0 []:=⟨Nat.le_refl _,by omega,fun _=>rfl,Rd.nil _ _ _ _,fun _ h=>by cases h⟩
theorem Wd.take {w:World} {B:Nat} {A:Option Addr} {c:Nat} {l:List Nat} (h:Wd w B A c l) {n:Nat} (hn:n≤l.length):Wd w B A c (l.take n):=by
 have hl:(l.take n).length=n:=by rw [List.length_take];omega
 refine⟨by have:=h.len;omega,h.cap,h.none_,?_,small_take h.small n⟩
 rw [hl]
 refine⟨by rw [wordsV_length,hl,Nat.mul_one],fun hp=>?_⟩
 obtain⟨b,o,e,hb,hc⟩:=h.rd.2 (by omega)
 refine⟨b,o,e,hb,fun j u hu=>hc j u ?_⟩
 have hj:j<n:=by have:=(List.getElem?_eq_some_iff.1 hu).1;rw [wordsV_length,hl]at this;exact this
 have:(wordsV (l.take n))[j]?=(wordsV l)[j]?:=by
  simp [wordsV,hj]
 rw [←this];exact hu
end BigW
namespace BigW
open Go.RowKit Mem BigLaw
theorem or_low (h v s:Nat) (hh:h<2 ^ s) (hv:v%2 ^ s=0):h|||v=v+h:=by
 have e:v=2 ^ s*(v/2 ^ s):=by have:=Nat.div_add_mod v (2 ^ s);omega
 rw [e,Nat.or_comm,←Nat.two_pow_add_eq_or_of_lt hh]
theorem or64 (x y:Nat) (hx:x<4294967296) (hy:y<4294967296):bits .or .u64 (x:Int) ((y:Int)*4294967296)=(x:Int)+(y:Int)*4294967296:=by
 have h:=u64_or_nat x (y*4294967296) (by omega) (by omega)
 rw [or_low x (y*4294967296) 32 (by omega) (by omega)]at h
 have e:((y*4294967296:Nat):Int)=(y:Int)*4294967296:=by omega
 rw [e]at h
 rw [h,Int.natCast_add,e]
 exact Int.add_comm _ _
end BigW
end Go.Proofs.YtljpoibnkkcjdaaGreatDoor
