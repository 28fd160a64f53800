import Derived.Test.YtljpoibnkkcjdaaGreatDoorPc8
set_option linter.unusedVariables false
set_option linter.unusedSimpArgs false
namespace Go.Proofs.YtljpoibnkkcjdaaGreatDoor
namespace Nd
open Go.RowKit Mem Rws Flat Av
def numAt (k:Nat):Option Ms.Msg→Int
 |some m=>m.zs.getD k 0
 |none=>0
def toldL (id ab k:Nat) (o:Nat→Option Ms.Msg) (r:Nat):List Int:=toldF id ab (fun p _=>numAt k (o p)) r
theorem toldL_succ (id ab k:Nat) (o:Nat→Option Ms.Msg) (r:Nat):toldL id ab k o (r+1)=toldL id ab k o r++if r≠id∧r≠ab then [numAt k (o r)]else []:=toldF_succ id ab _ r
theorem toldL_two {id ab:Nat} (k:Nat) (o:Nat→Option Ms.Msg) (h1:id<4) (h2:ab<4) (hne:ab≠id):(toldL id ab k o 4).length=2:=toldF_length id ab h1 h2 hne _
theorem toldL_mono (id ab k:Nat) (o:Nat→Option Ms.Msg) (r:Nat):∀d,(toldL id ab k o r).length≤(toldL id ab k o (r+d)).length
 |0=>Nat.le_refl _
 |d+1=>by
  have h:=toldL_mono id ab k o r d
  rw [←Nat.add_assoc,toldL_succ,List.length_append]
  omega
theorem toldL_room {id ab k:Nat} {o:Nat→Option Ms.Msg} (h1:id<4) (h2:ab<4) (hne:ab≠id) {r:Nat} (hr:r<4) (ht:r≠id∧r≠ab):(toldL id ab k o r).length<2:=by
 have h:=toldL_mono id ab k o (r+1) (4-(r+1))
 rw [show r+1+(4-(r+1))=4 by omega,toldL_two k o h1 h2 hne,toldL_succ,if_pos ht,List.length_append,List.length_singleton]at h
 omega
theorem toldL_le (id ab k:Nat) (o:Nat→Option Ms.Msg) (r:Nat):(toldL id ab k o r).length≤r:=by
 unfold toldL toldF
 rw [List.length_map]
 exact Nat.le_trans (List.length_filter_le _ _) (by simp)
def pairF (l:List Int) (i:Nat):Int:=l.getD i 0
theorem pair_put {l:List Int} (x:Int) (j:Nat):pairF (l++[x]) j=if j=l.length then x else pairF l j:=by
 unfold pairF
 rw [List.getD_eq_getElem?_getD,List.getD_eq_getElem?_getD]
 by_cases e:j=l.length
 · rw [if_pos e,e];simp
 ·
  rw [if_neg e]
  by_cases h:j<l.length
  · rw [List.getElem?_append_left h]
  · rw [List.getElem?_eq_none (by simp;omega),List.getElem?_eq_none (by omega)]
theorem pair_nought {l:List Int} (j:Nat):pairF (l++[0]) j=pairF l j:=by
 rw [pair_put]
 by_cases e:j=l.length
 · rw [if_pos e,e];simp [pairF,List.getD_eq_getElem?_getD]
 · rw [if_neg e]
def HeardRd (w:World) (B:Nat) (o:Option Ms.Msg) (v:Value):Prop:=
 match o with
 |some m=>∃a c,v=.slice (some a) m.zs.length c∧Rd w B 1 (some a) m.zs.length (Ms.intsV m.zs)
 |none=>v=.slice none 0 0
theorem HeardRd.of {w:World} {base:Nat} {o:Option Ms.Msg} {v:Value} (h:Ms.HeardAs w base o v):HeardRd w w.heap.size o v:=by
 cases o with
 |none=>exact h
 |some m=>obtain⟨a,c,rfl,h2⟩:=h;exact⟨a,c,rfl,Rd.of_own h2⟩
theorem HeardRd.below {w w':World} {B:Nat} {o:Option Ms.Msg} {v:Value} (h:HeardRd w B o v) (hb:Below B w w'):HeardRd w' B o v:=by
 cases o with
 |none=>exact h
 |some m=>obtain⟨a,c,e,h2⟩:=h;exact⟨a,c,e,h2.below hb⟩
theorem HeardRd.more {w:World} {B B':Nat} {o:Option Ms.Msg} {v:Value} (h:HeardRd w B o v) (hB:B≤B'):HeardRd w B' o v:=by
 cases o with
 |none=>exact h
 |some m=>obtain⟨a,c,e,h2⟩:=h;exact⟨a,c,e,h2.more hB⟩
set_option maxRecDepth 100000 in
set_option maxHeartbeats 2000000 in
theorem told_any (s:Nat→Value) (o:Nat→Option Ms.Msg) (id ab kk:Nat) (hid:id<4) (hab:ab<4) (hne:ab≠id) (w:World) (hs:∀i:Nat,i<4→HeardRd w w.heap.size (o i) (s i)) (hz:∀i m,o i=some m→kk<m.zs.length∧m.zs.length≤100):
  Calls Tryz.prog 34 #[.agg (row 4 s),.int .i64 (id:Int),.int .i64 (ab:Int),.int .i64 (kk:Int)] w fun e w'=>
   e=.returned (.agg (rowF .i64 2 (pairF (toldL id ab kk o 4))))∧Below w.heap.size w w':=by
 have hi:(Tryz.prog.info? 98).map (·.size)=some (row 4 s).size:=by rw [row_size];kernel_rfl
 have hix:=fun(j:Nat) (hj:j<4) (w:World)=>run_index_slices s j hj w
 have HIX:=Lib.hid hix
 have HS:=Lib.hid hs
 have HZ:=Lib.hid hz
 clear hix hs hz
 generalize row 4 s=R4 at*
 go_enter Tryz.func34,Tryz.ntmps34
 go_upto_region 3 with fail
 have HH:=Lib.hid (show Blk (((w.alloc (.cells R4 98)).alloc (.cells #[.int .i64 0,.int .i64 0] 100)).alloc (.cells #[.int .i64 0,.int .i64 0] 100)) w.heap.size 98 R4 from((Blk.new rfl).alloc _).alloc _)
 have HR:=Lib.hid (show Blk (((w.alloc (.cells R4 98)).alloc (.cells #[.int .i64 0,.int .i64 0] 100)).alloc (.cells #[.int .i64 0,.int .i64 0] 100)) (w.heap.size+1) 100 (rowF .i64 2 fun _=>0)from(Blk.new (by simp)).alloc _)
 have HO:=Lib.hid (show Blk (((w.alloc (.cells R4 98)).alloc (.cells #[.int .i64 0,.int .i64 0] 100)).alloc (.cells #[.int .i64 0,.int .i64 0] 100)) (w.heap.size+1+1) 100 (rowF .i64 2 fun _=>0)from Blk.new (by simp))
 have HB:=Lib.hid (show Below w.heap.size w (((w.alloc (.cells R4 98)).alloc (.cells #[.int .i64 0,.int .i64 0] 100)).alloc (.cells #[.int .i64 0,.int .i64 0] 100))from(((Below.refl _ _).alloc (by omega) _).alloc (by simp) _).alloc (by simp;omega) _)
 generalize(((w.alloc (.cells R4 98)).alloc (.cells #[.int .i64 0,.int .i64 0] 100)).alloc (.cells #[.int .i64 0,.int .i64 0] 100))=w1 at*
 obtain⟨gb,hgb⟩:∃g,w.heap.size=g:=⟨_,rfl⟩
 have HGB:=Lib.hid hgb
 rw [hgb]at HH HR HO ⊢
 clear hgb
 obtain⟨gr,hgr⟩:∃g,gb+1=g:=⟨_,rfl⟩
 rw [hgr]at HR HO ⊢
 obtain⟨go,hgo⟩:∃g,gr+1=g:=⟨_,rfl⟩
 rw [hgo]at HO ⊢
 have h1:gb<gr:=by omega
 have h2:gr<go:=by omega
 clear hgr hgo
 have HB:=Lib.hid (show Below gb w w1 from by have h:=HB.out;rw [HGB.out]at h;exact h)
 go_wp2_with(refine wpList_whole rfl 98 _ rfl gb rfl HH.out _ Tryz.underlying98 rfl hi ?_)
 go_loopw [10,14] (fun a i wr=>∃r:Nat,r≤4∧i=.int .i64 (r:Int)∧a=.int .i64 ((toldL id ab kk o r).length:Int)∧Blk wr gb 98 R4∧Blk wr gr 100 (rowF .i64 2 fun _=>0)∧Blk wr go 100 (rowF .i64 2 (pairF (toldL id ab kk o r)))∧Below gb w wr) (fun _ i _=>4-(intOf i).toNat)
 case atStart=>exact⟨0,by omega,rfl,rfl,HH.out,HR.out,HO.out,HB.out⟩
 case round=>
  clear HH HR HO HB
  obtain⟨r,hr,rfl,rfl,hh,hrr,ho,hb⟩:=hrel
  have HH:=Lib.hid hh
  have HR:=Lib.hid hrr
  have HO:=Lib.hid ho
  have HB:=Lib.hid hb
  clear hh hrr ho hb
  by_cases hlt:r<4
  ·
   have hix:=fun w=>HIX.out r hlt w
   have hsr:=(HS.out r hlt)
   have hk0:(0:Int)≤(kk:Int):=by omega
   by_cases e1:(r:Int)=(id:Int)
   ·
    have e1':((r:Int)==(id:Int))=true:=by simpa using e1
    have HT:=Lib.hid (show toldL id ab kk o (r+1)=toldL id ab kk o r by rw [toldL_succ,if_neg (by omega),List.append_nil])
    clear e1 hsr
    go_wp2_with fail
    exact⟨⟨r+1,by omega,by go_num,by rw [HT.out],HH.out,HR.out,by rw [HT.out];exact HO.out,HB.out⟩,by simp [intOf];omega⟩
   ·
    have e1':((r:Int)==(id:Int))=false:=by simpa using e1
    by_cases e2:(r:Int)=(ab:Int)
    ·
     have e2':((r:Int)==(ab:Int))=true:=by simpa using e2
     have HT:=Lib.hid (show toldL id ab kk o (r+1)=toldL id ab kk o r by rw [toldL_succ,if_neg (by omega),List.append_nil])
     clear e1 e2 hsr
     go_wp2_with fail
     exact⟨⟨r+1,by omega,by go_num,by rw [HT.out],HH.out,HR.out,by rw [HT.out];exact HO.out,HB.out⟩,by simp [intOf];omega⟩
    ·
     have e2':((r:Int)==(ab:Int))=false:=by simpa using e2
     have hroom:=toldL_room (k:=kk) (o:=o) hid hab hne hlt (show r≠id∧r≠ab by omega)
     have HT:=Lib.hid (show toldL id ab kk o (r+1)=toldL id ab kk o r++[numAt kk (o r)]by rw [toldL_succ,if_pos (by omega)])
     have hlen:=toldL_le id ab kk o r
     cases hor:o r with
     |none=>
      rw [hor]at hsr HT
      have hsn:s r=.slice none 0 0:=hsr
      rw [hsn]at hix
      have HL:=Lib.hid (show((toldL id ab kk o r++[numAt kk none]).length:Int)=(((toldL id ab kk o r).length:Int)+1)by simp)
      have HP:=Lib.hid (fun j=>show pairF (toldL id ab kk o r++[numAt kk none]) j=pairF (toldL id ab kk o r) j from pair_nought j)
      generalize toldL id ab kk o r=tl at*
      obtain⟨q,hq⟩:∃q,tl.length=q:=⟨_,rfl⟩
      rw [hq]at HL hroom hlen ⊢
      have HQ:=Lib.hid hq
      clear hq e1 e2 hsr hsn hor
      go_wp2_with fail
      refine⟨⟨r+1,by omega,by go_num,?_,HH.out,HR.out,?_,HB.out⟩,by simp [intOf];omega⟩
      · rw [HT.out,HL.out]
      ·
       rw [HT.out,show pairF (tl++[numAt kk none])=pairF tl from funext HP.out]
       exact HO.out
     |some m=>
      obtain⟨hkm,hkl⟩:=HZ.out r m hor
      rw [hor]at hsr HT
      obtain⟨a,ca,hsv,hrd⟩:=hsr
      rw [hsv]at hix
      have hrd:=hrd.below (HB.out.mono (Nat.le_of_eq HGB.out))
      obtain⟨b,of,u,e3,hbB,hu,hcell⟩:=hrd.at hkm
      injection e3 with e3
      subst e3
      obtain⟨z,hz⟩:∃z,u=.int .i64 z∧m.zs.getD kk 0=z:=by
       refine⟨m.zs.getD kk 0,?_,rfl⟩
       have:(Ms.intsV m.zs)[kk]?=some (.int .i64 (m.zs.getD kk 0)):=by
        unfold Ms.intsV
        rw [List.getElem?_map,List.getD_eq_getElem?_getD,List.getElem?_eq_getElem hkm]
        rfl
       rw [this]at hu
       exact(Option.some.inj hu).symm
      obtain⟨rfl,hz⟩:=hz
      have HNZ:=Lib.hid (show numAt kk (some m)=z from hz)
      have HL:=Lib.hid (show((toldL id ab kk o r++[z]).length:Int)=(((toldL id ab kk o r).length:Int)+1)by simp)
      have HP:=Lib.hid (fun j=>show pairF (toldL id ab kk o r++[z]) j=if j=(toldL id ab kk o r).length then z else pairF (toldL id ab kk o r) j from pair_put z j)
      generalize toldL id ab kk o r=tl at*
      obtain⟨q,hq⟩:∃q,tl.length=q:=⟨_,rfl⟩
      rw [hq]at HL hroom hlen HP ⊢
      have HQ:=Lib.hid hq
      have hq0:(0:Int)≤(q:Int):=by omega
      have hq1:(q:Int)<2:=by omega
      have hkm':(kk:Int)<(m.zs.length:Int):=by omega
      have f1:=HO.out.thaw q
      have x1: wr.cell? ⟨go,q,none⟩=some (.int .i64 (pairF tl q)):=by rw [HO.out.cell];rw [rowF_at _ _ _ _ (by omega)]
      clear hq e1 e2 hsv hor hz hu
      go_wp2_with fail
      refine⟨⟨r+1,by omega,by go_num,?_,HH.out.other (p:=⟨go,q,none⟩) (by show gb≠go;omega) _,HR.out.other (p:=⟨go,q,none⟩) (by show gr≠go;omega) _,?_,HB.out.setCell (p:=⟨go,q,none⟩) (by show gb≤go;omega) _⟩,by simp [intOf];omega⟩
      · rw [HT.out,HNZ.out,HL.out]
      ·
       rw [HT.out,HNZ.out]
       have h:=HO.out.set q (.int .i64 z)
       rwa [rowF_set (g:=pairF (tl++[z])) (fun i hi=>HP.out i)]at h
  ·
   obtain rfl:r=4:=by omega
   clear hlt
   rw [show((4:Nat):Int)=4 from rfl]
   have i2:(Tryz.prog.info? 100).map (·.size)=some (rowF .i64 2 (pairF (toldL id ab kk o 4))).size:=by rw [rowF_size];kernel_rfl
   have z2:(rowF .i64 2 fun _=>0).size=(rowF .i64 2 (pairF (toldL id ab kk o 4))).size:=by rw [rowF_size,rowF_size]
   have o2:(rowF .i64 2 (pairF (toldL id ab kk o 4))).all (·.oneCell')=true:=rowF_one
   obtain⟨RP,hRP⟩:∃RP,rowF .i64 2 (pairF (toldL id ab kk o 4))=RP:=⟨_,rfl⟩
   rw [hRP]at HO i2 z2 o2
   have HRP:=Lib.hid hRP
   clear hRP
   go_wp2_with(first|(refine wpList_whole rfl 100 _ rfl go rfl HO.out _ Tryz.underlying100 rfl i2 ?_)|(refine wpList_store_row rfl 100 _ _ rfl gr RP rfl rfl 100 _ HR.out i2 z2 o2 ?_))
   exact ret_row rfl rfl (HR.out.setRow RP) Tryz.underlying100 rfl i2 rfl ⟨by rw [HRP.out],by rw [HGB.out];exact below_setRow HB.out (by omega) RP⟩
end Nd
namespace Mj
open Go.ChangeShapes Go.WideShapes Go.ChangeAt Go.RowKit Mem MajLaw
def intsV (zs:List Int):List Value:=zs.map (Value.int .i64)
theorem intsV_at (zs:List Int) (k:Nat) (hk:k<zs.length):(intsV zs)[k]?=some (.int .i64 zs[k]):=by simp [intsV,hk]
theorem intsV_one (zs:List Int):∀u∈intsV zs,u.oneCell'=true:=fun u hu=>by
 obtain⟨z,_,rfl⟩:=List.mem_map.1 hu
 rfl
theorem elemInts:Elem Tryz.prog 70 3 (.int .i64 0) 1 8:=⟨Tryz.underlying70,by kernel_rfl,rfl,by omega⟩
theorem rd_of_blk {w:World} {g:Nat} {t:TypeId} {cs:Array Value} (h:Blk w g t cs):Rd w (g+1) 1 (some ⟨g,0,none⟩) cs.size cs.toList:=
 ⟨by simp,fun _=>⟨g,0,rfl,by omega,fun j u hu=>by rw [Nat.zero_add,h.cell];simpa using hu⟩⟩
theorem majority_any (A:Option Addr) (c:Nat) (zs:List Int) (o:Int) (B:Nat) (w:World) (hl:zs.length≤140737488355328) (hr:Rd w B 1 A zs.length (intsV zs)):
  Calls Tryz.prog 53 #[.slice A zs.length c,.int .i64 o] w fun e w'=>e=.returned (.int .i64 (maj zs o))∧w=w':=by
 have HR:=Lib.hid hr
 clear hr
 go_enter Tryz.func53,Tryz.ntmps53
 go_wp2_with fail
 go_loop [5,6,13] (fun n a i=>∃k:Nat,k≤zs.length∧i=.int .i64 k∧n=.int .i64 ((left (zs.take k)).1:Nat)∧a=.int .i64 (left (zs.take k)).2) (fun _ _ i=>zs.length-(intOf i).toNat)
 case atStart=>exact⟨0,by omega,rfl,rfl,rfl⟩
 case round=>
  obtain⟨k,hk,rfl,rfl,rfl⟩:=hrel
  by_cases hlt:k<zs.length
  ·
   obtain⟨b,q,u,rfl,hbB,hu,hcell⟩:=HR.out.at hlt
   rw [intsV_at zs k hlt]at hu
   injection hu with hu
   subst hu
   have HS:=Lib.hid (left_take zs k hlt)
   have hle:=left_le (zs.take k)
   rw [List.length_take,Nat.min_eq_left hk]at hle
   generalize left (zs.take k)=s at HS hle ⊢
   generalize zs[k]=v at HS hcell
   obtain⟨n,a⟩:=s
   simp only at hle ⊢
   have hlt1:(k:Int)<(zs.length:Int):=by omega
   by_cases h0:n=0
   ·
    have HE:=Lib.hid (show vstep (n,a) v=(1,v)from vstep_zero h0)
    have hb:((n:Int)==0)=true:=by simp [h0]
    clear h0
    go_wp2_with fail
    exact⟨⟨k+1,by omega,by go_num,by rw [HS.out,HE.out];rfl,by rw [HS.out,HE.out]⟩,by simp [intOf];omega⟩
   ·
    have hb:((n:Int)==0)=false:=by simp [h0]
    by_cases h1:v=a
    ·
     have HE:=Lib.hid (show vstep (n,a) v=(n+1,a)from vstep_same h0 h1)
     have hb1:(v==a)=true:=by simp [h1]
     clear h0 h1
     go_wp2_with fail
     exact⟨⟨k+1,by omega,by go_num,by rw [HS.out,HE.out];go_num,by rw [HS.out,HE.out]⟩,by simp [intOf];omega⟩
    ·
     have HE:=Lib.hid (show vstep (n,a) v=(n-1,a)from vstep_other h0 h1)
     have hb1:(v==a)=false:=by simp [h1]
     have hn1:1≤n:=by omega
     clear h0 h1
     go_wp2_with fail
     exact⟨⟨k+1,by omega,by go_num,by rw [HS.out,HE.out];go_num,by rw [HS.out,HE.out]⟩,by simp [intOf];omega⟩
  ·
   obtain rfl:k=zs.length:=by omega
   clear hlt
   have HM:=Lib.hid (show maj zs o=if zs.length<2*cnt (left (zs.take zs.length)).2 (zs.take zs.length)then(left (zs.take zs.length)).2 else o by rw [List.take_length];rfl)
   generalize left (zs.take zs.length)=s at HM ⊢
   obtain⟨n,a⟩:=s
   simp only at HM ⊢
   go_wp2_with fail
   go_loop [5,32] (fun n i=>∃k:Nat,k≤zs.length∧i=.int .i64 k∧n=.int .i64 (cnt a (zs.take k):Nat)) (fun _ i=>zs.length-(intOf i).toNat)
   case atStart=>exact⟨0,by omega,rfl,rfl⟩
   case round=>
    obtain⟨k,hk,rfl,rfl⟩:=hrel
    have hle:=cnt_le a (zs.take k)
    rw [List.length_take,Nat.min_eq_left hk]at hle
    by_cases hlt:k<zs.length
    ·
     obtain⟨b,q,u,rfl,hbB,hu,hcell⟩:=HR.out.at hlt
     rw [intsV_at zs k hlt]at hu
     injection hu with hu
     subst hu
     have HS:=Lib.hid (cnt_take a zs k hlt)
     generalize cnt a (zs.take k)=m at HS hle ⊢
     generalize zs[k]=v at HS hcell
     have hlt1:(k:Int)<(zs.length:Int):=by omega
     by_cases h1:v=a
     ·
      have HE:=Lib.hid (show(if v=a then 1 else 0)=1 from if_pos h1)
      have hb1:(v==a)=true:=by simp [h1]
      clear h1
      go_wp2_with fail
      exact⟨⟨k+1,by omega,by go_num,by rw [HS.out,HE.out];go_num⟩,by simp [intOf];omega⟩
     ·
      have HE:=Lib.hid (show(if v=a then 1 else 0)=0 from if_neg h1)
      have hb1:(v==a)=false:=by simp [h1]
      clear h1
      go_wp2_with fail
      exact⟨⟨k+1,by omega,by go_num,by rw [HS.out,HE.out];go_num⟩,by simp [intOf];omega⟩
    ·
     obtain rfl:k=zs.length:=by omega
     clear hlt
     generalize cnt a (zs.take zs.length)=m at HM hle ⊢
     by_cases hm:zs.length<2*m
     ·
      have HE:=Lib.hid (show(if zs.length<2*m then a else o)=a from if_pos hm)
      go_wp2_with fail
      go_ret
      exact⟨by rw [HM.out,HE.out];rfl,rfl⟩
     ·
      have HE:=Lib.hid (show(if zs.length<2*m then a else o)=o from if_neg hm)
      go_wp2_with fail
      go_ret
      exact⟨by rw [HM.out,HE.out];rfl,rfl⟩
theorem decide_any (a b c:Int) (w:World):
  Calls Tryz.prog 35 #[.int .i64 a,.int .i64 b,.int .i64 c] w fun e w'=>e=.returned (.int .i64 (maj [a,b,c] 0))∧Below w.heap.size w w':=by
 have HB:=Lib.hid (rd_of_blk (Blk.new (w:=w) (t:=3) (cs:=#[.int .i64 a,.int .i64 b,.int .i64 c]) rfl))
 go_enter Tryz.func35,Tryz.ntmps35
 go_wp2_with fail
 refine(majority_any _ 3 [a,b,c] 0 _ _ (by simp) HB.out).mono ?_
 rintro e w1 ⟨rfl,rfl⟩
 go_wp2_with fail
 go_ret
 exact⟨rfl,(Below.refl _ _).alloc (Nat.le_refl _) _⟩
end Mj
namespace Nd
open Go.RowKit Mem Rws Flat Av
def takenZ (id ab:Nat) (hd:Int) (k:Nat) (o:Nat→Option Ms.Msg):Int:=if ab=id then hd else MajLaw.maj (hd::toldL id ab k o 4) 0
end Nd
namespace Nd
open Go.RowKit Mem Rws
def upd {α:Type} (g:Nat→α) (i:Nat) (v:α) (k:Nat):α:=if k=i then v else g k
theorem upd_same {α:Type} (g:Nat→α) (i:Nat) (v:α):upd g i v i=v:=if_pos rfl
theorem upd_other {α:Type} (g:Nat→α) {i k:Nat} (v:α) (h:k≠i):upd g i v k=g k:=if_neg h
theorem roll_in (f:Nat→Bool) (m j:Nat→Int) (i:Nat) (hi:i<4) (b:Bool):(row 12 (rollF f m j)).setIfInBounds i (.bool b)=row 12 (rollF (upd f i b) m j):=by
 rw [row_set]
 refine row_congr fun k hk=>?_
 by_cases e:k=i
 · subst e;rw [if_pos rfl];unfold rollF;rw [if_pos hi,upd_same]
 · rw [if_neg e];unfold rollF;rw [upd_other _ _ e]
theorem roll_miss (f:Nat→Bool) (m j:Nat→Int) (i:Nat) (hi:i<4) (v:Int):(row 12 (rollF f m j)).setIfInBounds (4+i) (.int .i64 v)=row 12 (rollF f (upd m i v) j):=by
 rw [row_set]
 refine row_congr fun k hk=>?_
 by_cases e:k=4+i
 · subst e;rw [if_pos rfl];unfold rollF;rw [if_neg (show ¬(4+i<4)by omega),if_pos (show 4+i<8 by omega),Nat.add_sub_cancel_left,upd_same]
 ·
  rw [if_neg e];unfold rollF
  by_cases h:k<4
  · rw [if_pos h,if_pos h]
  ·
   rw [if_neg h,if_neg h]
   by_cases h8:k<8
   · rw [if_pos h8,if_pos h8,upd_other _ _ (by omega)]
   · rw [if_neg h8,if_neg h8]
theorem roll_join (f:Nat→Bool) (m j:Nat→Int) (i:Nat) (hi:i<4) (v:Int):(row 12 (rollF f m j)).setIfInBounds (8+i) (.int .i64 v)=row 12 (rollF f m (upd j i v)):=by
 rw [row_set]
 refine row_congr fun k hk=>?_
 by_cases e:k=8+i
 · subst e;rw [if_pos rfl];unfold rollF;rw [if_neg (show ¬(8+i<4)by omega),if_neg (show ¬(8+i<8)by omega),Nat.add_sub_cancel_left,upd_same]
 ·
  rw [if_neg e];unfold rollF
  by_cases h:k<4
  · rw [if_pos h,if_pos h]
  ·
   rw [if_neg h,if_neg h]
   by_cases h8:k<8
   · rw [if_pos h8,if_pos h8]
   · rw [if_neg h8,if_neg h8,upd_other _ _ (by omega)]
theorem roll_congr {f f':Nat→Bool} {m m' j j':Nat→Int} (hf:∀i,i<4→f i=f' i) (hm:∀i,i<4→m i=m' i) (hj:∀i,i<4→j i=j' i):row 12 (rollF f m j)=row 12 (rollF f' m' j'):=row_congr fun k hk=>by
 unfold rollF
 by_cases h:k<4
 · rw [if_pos h,if_pos h,hf k h]
 ·
  rw [if_neg h,if_neg h]
  by_cases h8:k<8
  · rw [if_pos h8,if_pos h8,hm _ (by omega)]
  · rw [if_neg h8,if_neg h8,hj _ (by omega)]
structure RS where
 f:Nat→Bool
 m:Nat→Int
 j:Nat→Int
def RS.row (s:RS):Array Value:=Rws.row 12 (rollF s.f s.m s.j)
def one (s:RS) (i:Nat) (b:Bool):RS×List (Int×Int):=
 if s.f i=true then
  if b=true then(⟨s.f,upd s.m i 0,s.j⟩,[])
  else if 2≤s.m i+1∧2<cntTo s.f 4 then(⟨upd s.f i false,upd s.m i 0,s.j⟩,[(1,(i:Int))])
  else(⟨s.f,upd s.m i (min (s.m i+1) 2),s.j⟩,[])
 else if b=false then(⟨s.f,s.m,upd s.j i 0⟩,[])
 else if 3≤s.j i+1 then(⟨upd s.f i true,s.m,upd s.j i 0⟩,[(2,(i:Int))])
 else(⟨s.f,s.m,upd s.j i (s.j i+1)⟩,[])
def many (s:RS) (ag:Nat→Bool):Nat→RS×List (Int×Int)
 |0=>(s,[])
 |k+1=>((one (many s ag k).1 k (ag k)).1,(many s ag k).2++(one (many s ag k).1 k (ag k)).2)
def GoodAt (s:RS) (i:Nat):Prop:=okAt s.f s.m s.j i=true
theorem one_other (s:RS) {i k:Nat} (b:Bool) (h:k≠i):(one s i b).1.f k=s.f k∧(one s i b).1.m k=s.m k∧(one s i b).1.j k=s.j k:=by
 unfold one
 (repeat' split)<;>simp [upd_other _ _ h]
theorem okAt_congr {f f':Nat→Bool} {m m' j j':Nat→Int} {k:Nat} (hf:f k=f' k) (hm:m k=m' k) (hj:j k=j' k):okAt f m j k=okAt f' m' j' k:=by
 rw [okAt_is (f:=f) (m:=m) (j:=j) rfl rfl rfl,okAt_is (f:=f') (m:=m') (j:=j') rfl rfl rfl,hf,hm,hj]
theorem many_good (s:RS) (ag:Nat→Bool):∀k,∀i,k≤i→GoodAt s i→GoodAt (many s ag k).1 i
 |0,i,_,h=>h
 |k+1,i,hk,h=>by
  have h1:=many_good s ag k i (by omega) h
  obtain⟨e1,e2,e3⟩:=one_other (many s ag k).1 (ag k) (show i≠k by omega)
  unfold GoodAt at h1 ⊢
  rw [←h1]
  exact okAt_congr e1 e2 e3
theorem good_in {s:RS} {i:Nat} (h:GoodAt s i) (hf:s.f i=true):0≤s.m i∧s.m i≤2∧s.j i=0:=by
 unfold GoodAt at h
 rw [okAt_is hf rfl rfl,okP_in]at h
 simpa [and_assoc] using h
theorem good_out {s:RS} {i:Nat} (h:GoodAt s i) (hf:s.f i=false):s.m i=0∧0≤s.j i∧s.j i<3:=by
 unfold GoodAt at h
 rw [okAt_is hf rfl rfl,okP_out]at h
 simpa [and_assoc] using h
theorem okTo_at {f:Nat→Bool} {m j:Nat→Int}:∀ {n:Nat},okTo f m j n=true→∀i,i<n→okAt f m j i=true
 |0,_,i,h=>by omega
 |n+1,h,i,hi=>by
  unfold okTo at h
  simp only [Bool.and_eq_true]at h
  by_cases e:i=n
  · subst e;exact h.2
  · exact okTo_at h.1 i (by omega)
theorem many_len (s:RS) (ag:Nat→Bool):∀k,(many s ag k).2.length≤k
 |0=>Nat.le_refl _
 |k+1=>by
  have:=many_len s ag k
  unfold many
  rw [List.length_append]
  have h1:(one (many s ag k).1 k (ag k)).2.length≤1:=by unfold one;(repeat' split)<;>simp
  omega
end Nd
namespace Nd
open Go.RowKit Mem Rws Flat
def rollW (f:Nat→Value) (r:RS) (i:Nat):Value:=if 27≤i∧i<39 then rollF r.f r.m r.j (i-27)else f i
theorem ok_rollW {f:Nat→Value} (hf:∀i,i<73→okT (nodeT i) (f i)) (r:RS):∀i,i<73→okT (nodeT i) (rollW f r i):=fun i hi=>by
 unfold rollW
 by_cases h:27≤i∧i<39
 ·
  rw [if_pos h]
  unfold rollF
  by_cases h1:i-27<4
  ·
   rw [if_pos h1]
   obtain rfl|rfl|rfl|rfl:i=27∨i=28∨i=29∨i=30:=by omega
   all_goals exact⟨_,rfl⟩
  ·
   rw [if_neg h1]
   have e:nodeT i=true:=by unfold nodeT;simp;omega
   rw [e]
   split
   · exact⟨_,rfl⟩
   · exact⟨_,rfl⟩
 · rw [if_neg h];exact hf i hi
theorem roll_store (f:Nat→Value) (r:RS) (S:Value):row 74 (over 27 12 (rollF r.f r.m r.j) (nodeW f S))=row 74 (nodeW (rollW f r) S):=row_congr fun i hi=>by
 unfold over nodeW rollW
 by_cases h:27≤i∧i<39
 · rw [if_pos h,if_neg (by omega),if_pos h]
 · rw [if_neg h,if_neg h]
end Nd
namespace Nd
open Go.RowKit Mem Rws
theorem upd_upd {α:Type} (g:Nat→α) (i:Nat) (a b:α):upd (upd g i a) i b=upd g i b:=funext fun k=>by unfold upd;split<;>rfl
theorem upd_id {α:Type} (g:Nat→α) (i:Nat) {a:α} (h:g i=a):upd g i a=g:=funext fun k=>by unfold upd;split;subst_vars;rfl;rfl
section
variable {w w1 w2 : World} {row : Option Nat}
theorem gr_refl (w:World) (row:Option Nat):w.grownBy w row:=⟨rfl,rfl,rfl,Nat.le_refl _,fun _ _ _=>rfl⟩
theorem gr_trans (h:w.grownBy w1 row) (k:w1.grownBy w2 row):w.grownBy w2 row:=⟨k.os.trans h.os,k.tape.trans h.tape,k.output.trans h.output,Nat.le_trans h.size k.size,fun g hg hne=>(k.block g (Nat.lt_of_lt_of_le hg h.size) hne).trans (h.block g hg hne)⟩
theorem gr_drewN (w:World) (n:Nat) (row:Option Nat):w.grownBy (w.drewN n) row:=⟨rfl,rfl,rfl,Nat.le_refl _,fun _ _ _=>rfl⟩
theorem gr_set (w:World) (g i:Nat) (u:Value):w.grownBy (w.setCell ⟨g,i,none⟩ u) (some g):=⟨rfl,rfl,rfl,by simp,fun k hk hne=>Below.heap_setCell w ⟨g,i,none⟩ u k (fun e=>hne (by rw [e]))⟩
theorem gr_below (h:Below w.heap.size w w1):w.grownBy w1 row:=⟨h.os,h.tape,h.output,h.size,fun k hk _=>h.block k hk⟩
end
def TurnAs (w w':World) (g:Nat) (s:RS) (i:Nat) (b:Bool) (kind:Int) (e:Ending):Prop:=
 ∃out:Bool,e=.returned (.bool out)∧(one s i b).2=(if out=true then [(kind,(i:Int))]else [])∧Blk w' g 32 (one s i b).1.row∧w.grownBy w' (some g)
set_option maxRecDepth 100000 in
set_option maxHeartbeats 4000000 in
theorem stay_any (s:RS) (i:Nat) (hi:i<4) (b:Bool) (hf:s.f i=true) (hg:GoodAt s i) (g:Nat) (w:World) (hr:Blk w g 32 s.row):
  Calls Tryz.prog 59 #[.pointer (some ⟨g,0,none⟩),.int .i64 (i:Int),.bool b] w fun e w'=>TurnAs w w' g s i b 1 e:=by
 obtain⟨h1,h2,h3⟩:=good_in hg hf
 obtain⟨f,m,j⟩:=s
 dsimp only at hf h1 h2 h3
 have hr:Blk w g 32 (row 12 (rollF f m j)):=hr
 have HR:=Lib.hid hr
 have hlt:=hr.lt
 have xm: w.cell? ⟨g,4+i,none⟩=some (.int .i64 (m i)):=by rw [hr.cell,row_at (by omega),rollF_miss hi]
 have fm:=hr.thaw (4+i)
 have xi: w.cell? ⟨g,i,none⟩=some (.bool true):=by rw [hr.cell,row_at (by omega),rollF_in hi,hf]
 have hi0:(0:Int)≤(i:Int):=by omega
 have hi1:(i:Int)<4:=by omega
 have HF:=Lib.hid hf
 have H3:=Lib.hid h3
 clear hg hr hf h3
 cases b with
 |true=>
  have HO:=Lib.hid (show one ⟨f,m,j⟩ i true=(⟨f,upd m i 0,j⟩,[])by unfold one;rw [if_pos HF.out,if_pos rfl])
  go_enter Tryz.func59,Tryz.ntmps59
  go_wp2_with fail
  go_ret
  refine⟨false,rfl,by rw [HO.out];rfl,?_,gr_set _ _ _ _⟩
  rw [HO.out]
  show Blk _ _ _ (row 12 (rollF f (upd m i 0) j))
  rw [←roll_miss f m j i hi 0]
  exact HR.out.set (4+i) _
 |false=>
  obtain⟨q,hq⟩:∃q,m i=q:=⟨_,rfl⟩
  rw [hq]at xm h1 h2
  have HQ:=Lib.hid hq
  clear hq
  have ew:IntKind.i64.wrap (q+1)=q+1:=IntWalk.i64_in _ (by omega)
  go_enter Tryz.func59,Tryz.ntmps59
  go_wp2_with fail
  go_region
  have R1:=Lib.hid ((HR.out.set (4+i) (.int .i64 (q+1))).drew)
  rw [roll_miss f m j i hi]at R1
  have G1:Hid (w.grownBy ((w.setCell ⟨g,4+i,none⟩ (.int .i64 (q+1))).drew) (some g)):=Lib.hid (gr_trans (gr_set w g (4+i) (.int .i64 (q+1))) (gr_drewN _ 1 _))
  generalize((w.setCell ⟨g,4+i,none⟩ (.int .i64 (q+1))).drew)=w1 at*
  have xm: w1.cell? ⟨g,4+i,none⟩=some (.int .i64 (q+1)):=by rw [R1.out.cell,row_at (by omega),rollF_miss hi,upd_same]
  have fm:=R1.out.thaw (4+i)
  have i1:(Tryz.prog.info? 32).map (·.size)=some (row 12 (rollF f (upd m i (q+1)) j)).size:=by rw [row_size];kernel_rfl
  clear HR
  by_cases hq2:q+1<2
  ·
   have HO:=Lib.hid (show one ⟨f,m,j⟩ i false=(⟨f,upd m i (min (q+1) 2),j⟩,[])by unfold one;dsimp only;rw [if_pos HF.out,if_neg (by decide),if_neg (by rw [HQ.out];omega),HQ.out])
   have hmin:min (q+1) 2=q+1:=by omega
   go_wp2_with fail
   go_region
   go_wp2_with fail
   go_ret
   refine⟨false,rfl,by rw [HO.out];rfl,?_,gr_trans G1.out (gr_trans (gr_set _ g (4+i) _) (gr_drewN _ 1 _))⟩
   rw [HO.out]
   show Blk _ _ _ (row 12 (rollF f (upd m i (min (q+1) 2)) j))
   rw [hmin]
   have h:=(R1.out.set (4+i) (.int .i64 (q+1))).drew
   rw [roll_miss _ _ _ i hi,upd_upd]at h
   exact h
  ·
   have hd:decide (q+1<2)=false:=decide_eq_false hq2
   have hq2:2≤q+1:=by omega
   go_upto_region 5 with fail
   refine wp_region_list ?_
   iterate 8
    refine wpList_wanted (by rfl) (fun K hK=>?_)
    go_simp
    try simp only [hd]
    refine hK _ _ ?_
    clear hK K
    try simp only [Rg.lp]
   iterate 2
    refine wpList_wanted (by rfl) (fun K hK=>?_)
    go_simp
    refine hK _ _ ?_
    clear hK K
    try simp only [Rg.lp]
   refine wpList_whole (by rfl) 32 _ rfl g rfl R1.out _ Tryz.underlying32 rfl i1 ?_
   try simp only [Rg.lp]
   refine wpList_wanted (by rfl) (fun K hK=>?_)
   go_simp
   go_at_call 83
   refine(count_any f (upd m i (q+1)) j _).mono ?_
   rintro e w2 ⟨rfl,hb⟩
   have R2:=Lib.hid (R1.out.below hb R1.out.lt)
   have G2:Hid (w.grownBy w2 (some g)):=Lib.hid (gr_trans G1.out (gr_below hb))
   have hc4:=cntTo_le f 4
   obtain⟨C,hC⟩:∃C:Int,(cntTo f 4:Int)=C:=⟨_,rfl⟩
   rw [hC]
   have xm: w2.cell? ⟨g,4+i,none⟩=some (.int .i64 (q+1)):=by rw [R2.out.cell,row_at (by omega),rollF_miss hi,upd_same]
   have fm:=R2.out.thaw (4+i)
   clear hb R1 G1
   by_cases hc:C≤2
   ·
    have HO:=Lib.hid (show one ⟨f,m,j⟩ i false=(⟨f,upd m i (min (q+1) 2),j⟩,[])by unfold one;dsimp only;rw [if_pos HF.out,if_neg (by decide),if_neg (by rw [HQ.out];omega),HQ.out])
    have hmin:min (q+1) 2=2:=by omega
    have hcd:decide (C≤2)=true:=decide_eq_true hc
    go_wp2_with fail
    go_region
    all_goals go_wp2_with fail
    all_goals
     go_ret
     refine⟨false,rfl,by rw [HO.out];rfl,?_,gr_trans G2.out (gr_trans (gr_set _ g (4+i) _) (gr_drewN _ 1 _))⟩
     rw [HO.out]
     show Blk _ _ _ (row 12 (rollF f (upd m i (min (q+1) 2)) j))
     rw [hmin]
     have h:=(R2.out.set (4+i) (.int .i64 2)).drew
     rw [roll_miss _ _ _ i hi,upd_upd]at h
     first|exact h|(rw [show q+1=2 by omega];exact h)
   ·
    have HO:=Lib.hid (show one ⟨f,m,j⟩ i false=(⟨upd f i false,upd m i 0,j⟩,[(1,(i:Int))])by unfold one;dsimp only;rw [if_pos HF.out,if_neg (by decide),if_pos (by rw [HQ.out];omega)])
    have hcd:decide (C≤2)=false:=decide_eq_false hc
    have xi: w2.cell? ⟨g,i,none⟩=some (.bool true):=by rw [R2.out.cell,row_at (by omega),rollF_in hi,HF.out]
    have xj: w2.cell? ⟨g,8+i,none⟩=some (.int .i64 0):=by rw [R2.out.cell,row_at (by omega),rollF_join hi,H3.out]
    have fi:=R2.out.thaw i
    have fj:=R2.out.thaw (8+i)
    go_wp2_with fail
    go_region
    go_wp2_with fail
    go_ret
    refine⟨true,rfl,by rw [HO.out];rfl,?_,gr_trans G2.out (gr_trans (gr_set _ g i _) (gr_trans (gr_set _ g (4+i) _) (gr_trans (gr_set _ g (8+i) _) (gr_drewN _ 1 _))))⟩
    rw [HO.out]
    show Blk _ _ _ (row 12 (rollF (upd f i false) (upd m i 0) j))
    have h:=(((R2.out.set i (.bool false)).set (4+i) (.int .i64 0)).set (8+i) (.int .i64 0)).drew
    rw [roll_in _ _ _ i hi,roll_miss _ _ _ i hi,roll_join _ _ _ i hi,upd_upd,upd_id j i H3.out]at h
    exact h
set_option maxRecDepth 100000 in
set_option maxHeartbeats 4000000 in
theorem wait_any (s:RS) (i:Nat) (hi:i<4) (b:Bool) (hf:s.f i=false) (hg:GoodAt s i) (g:Nat) (w:World) (hr:Blk w g 32 s.row):
  Calls Tryz.prog 60 #[.pointer (some ⟨g,0,none⟩),.int .i64 (i:Int),.bool b] w fun e w'=>TurnAs w w' g s i b 2 e:=by
 obtain⟨h1,h2,h3⟩:=good_out hg hf
 obtain⟨f,m,j⟩:=s
 dsimp only at hf h1 h2 h3
 have hr:Blk w g 32 (row 12 (rollF f m j)):=hr
 have HR:=Lib.hid hr
 have hlt:=hr.lt
 have xj: w.cell? ⟨g,8+i,none⟩=some (.int .i64 (j i)):=by rw [hr.cell,row_at (by omega),rollF_join hi]
 have fj:=hr.thaw (8+i)
 have hi0:(0:Int)≤(i:Int):=by omega
 have hi1:(i:Int)<4:=by omega
 have HF:=Lib.hid hf
 have H1:=Lib.hid h1
 have hne:¬(f i=true):=by rw [hf];decide
 have HNE:=Lib.hid hne
 clear hg hr hf h1 hne
 cases b with
 |false=>
  have HO:=Lib.hid (show one ⟨f,m,j⟩ i false=(⟨f,m,upd j i 0⟩,[])by unfold one;rw [if_neg HNE.out,if_pos rfl])
  go_enter Tryz.func60,Tryz.ntmps60
  go_wp2_with fail
  go_ret
  refine⟨false,rfl,by rw [HO.out];rfl,?_,gr_set _ _ _ _⟩
  rw [HO.out]
  show Blk _ _ _ (row 12 (rollF f m (upd j i 0)))
  rw [←roll_join f m j i hi 0]
  exact HR.out.set (8+i) _
 |true=>
  obtain⟨q,hq⟩:∃q,j i=q:=⟨_,rfl⟩
  rw [hq]at xj h2 h3
  have HQ:=Lib.hid hq
  clear hq
  have ew:IntKind.i64.wrap (q+1)=q+1:=IntWalk.i64_in _ (by omega)
  go_enter Tryz.func60,Tryz.ntmps60
  go_wp2_with fail
  go_region
  have R1:=Lib.hid ((HR.out.set (8+i) (.int .i64 (q+1))).drew)
  rw [roll_join f m j i hi]at R1
  have G1:Hid (w.grownBy ((w.setCell ⟨g,8+i,none⟩ (.int .i64 (q+1))).drew) (some g)):=Lib.hid (gr_trans (gr_set w g (8+i) (.int .i64 (q+1))) (gr_drewN _ 1 _))
  generalize((w.setCell ⟨g,8+i,none⟩ (.int .i64 (q+1))).drew)=w1 at*
  have xj: w1.cell? ⟨g,8+i,none⟩=some (.int .i64 (q+1)):=by rw [R1.out.cell,row_at (by omega),rollF_join hi,upd_same]
  have fj:=R1.out.thaw (8+i)
  clear HR
  by_cases hq3:q+1<3
  ·
   have HO:=Lib.hid (show one ⟨f,m,j⟩ i true=(⟨f,m,upd j i (q+1)⟩,[])by unfold one;dsimp only;rw [if_neg HNE.out,if_neg (by decide),if_neg (by rw [HQ.out];omega),HQ.out])
   go_wp2_with fail
   go_ret
   exact⟨false,rfl,by rw [HO.out];rfl,by rw [HO.out];exact R1.out,G1.out⟩
  ·
   have HO:=Lib.hid (show one ⟨f,m,j⟩ i true=(⟨upd f i true,m,upd j i 0⟩,[(2,(i:Int))])by unfold one;dsimp only;rw [if_neg HNE.out,if_neg (by decide),if_pos (by rw [HQ.out];omega)])
   have hq3:3≤q+1:=by omega
   have xi: w1.cell? ⟨g,i,none⟩=some (.bool false):=by rw [R1.out.cell,row_at (by omega),rollF_in hi,HF.out]
   have xm: w1.cell? ⟨g,4+i,none⟩=some (.int .i64 0):=by rw [R1.out.cell,row_at (by omega),rollF_miss hi,H1.out]
   have fi:=R1.out.thaw i
   have fm:=R1.out.thaw (4+i)
   go_wp2_with fail
   go_region
   go_wp2_with fail
   go_ret
   refine⟨true,rfl,by rw [HO.out];rfl,?_,gr_trans G1.out (gr_trans (gr_set _ g i _) (gr_trans (gr_set _ g (4+i) _) (gr_trans (gr_set _ g (8+i) _) (gr_drewN _ 1 _))))⟩
   rw [HO.out]
   show Blk _ _ _ (row 12 (rollF (upd f i true) m (upd j i 0)))
   have h:=(((R1.out.set i (.bool true)).set (4+i) (.int .i64 0)).set (8+i) (.int .i64 0)).drew
   rw [roll_in _ _ _ i hi,roll_miss _ _ _ i hi,roll_join _ _ _ i hi,upd_upd,upd_id m i H1.out]at h
   exact h
end Nd
end Go.Proofs.YtljpoibnkkcjdaaGreatDoor
