import Derived.Deep.DeepCutAuto
import Derived.Deep.RegionHeld3
import Derived.Test.YtljpoibnkkcjdaaGreatDoorPc0
set_option linter.unusedVariables false
set_option linter.unusedSimpArgs false
namespace Go.Proofs.YtljpoibnkkcjdaaGreatDoor
namespace Rws
open Go.RowKit Mem Flat
def row (n:Nat) (f:Nat→Value):Array Value:=((List.range n).map f).toArray
theorem row_size (n:Nat) (f:Nat→Value):(row n f).size=n:=by simp [row]
theorem row_at {n:Nat} {f:Nat→Value} {i:Nat} (hi:i<n):(row n f)[i]?=some (f i):=by simp [row,hi]
theorem row_out {n:Nat} {f:Nat→Value} {i:Nat} (hi:n≤i):(row n f)[i]?=none:=by rw [Array.getElem?_eq_none (by rw [row_size];exact hi)]
theorem row_congr {n:Nat} {f g:Nat→Value} (h:∀i,i<n→f i=g i):row n f=row n g:=by
 unfold row
 congr 1
 exact List.map_congr_left fun i hi=>h i (List.mem_range.1 hi)
theorem row_set {n:Nat} {f:Nat→Value} (j:Nat) (v:Value):(row n f).setIfInBounds j v=row n fun i=>if i=j then v else f i:=by
 apply Array.ext_getElem?
 intro i
 rw [Array.getElem?_setIfInBounds]
 rcases Nat.lt_or_ge i n with h|h
 ·
  rw [row_at h,row_at h]
  by_cases e:j=i
  · subst e;simp [row_size,h]
  · rw [if_neg e,if_neg (fun h=>e h.symm)]
 ·
  rw [row_out h,row_out h]
  by_cases e:j=i
  · subst e;simp [row_size];omega
  · rw [if_neg e]
theorem row_toList (n:Nat) (f:Nat→Value):(row n f).toList=(List.range n).map f:=rfl
theorem row_one {n:Nat} {f:Nat→Value} (h:∀i,i<n→(f i).oneCell'=true):(row n f).all (·.oneCell')=true:=by
 rw [Array.all_eq_true_iff_forall_mem]
 intro v hv
 simp only [row,List.mem_toArray,List.mem_map,List.mem_range]at hv
 obtain⟨i,hi,rfl⟩:=hv
 exact h i hi
def over (o m:Nat) (g f:Nat→Value) (i:Nat):Value:=if o≤i∧i<o+m then g (i-o)else f i
theorem over_in {o m:Nat} {g f:Nat→Value} {i:Nat} (h1:o≤i) (h2:i<o+m):over o m g f i=g (i-o):=if_pos ⟨h1,h2⟩
theorem over_out {o m:Nat} {g f:Nat→Value} {i:Nat} (h:i<o∨o+m≤i):over o m g f i=f i:=if_neg (by omega)
theorem row_range {w:World} {b:Nat} {t:TypeId} {n:Nat} {f:Nat→Value} (h:Blk w b t (row n f)) (o m:Nat) (ho:o+m≤n):w.rangeAt b o ((List.range m).map fun j=>f (o+j)):=fun j v hv=>by
 have hj:j<m:=by have:=(List.getElem?_eq_some_iff.1 hv).1;simpa using this
 rw [h.cell,row_at (by omega)]
 simp [hj]at hv
 rw [hv]
theorem row_there {w:World} {b:Nat} {t:TypeId} {n:Nat} {f:Nat→Value} (h:Blk w b t (row n f)) (o m:Nat) (ho:o+m≤n):w.there b o m:=fun j hj=>
 ⟨by rw [h.cell,row_at (by omega)];rfl,h.thaw _⟩
theorem setCells_blk {b:Nat} {t:TypeId} {n:Nat} (g:Nat→Value):∀(m k o:Nat) (w:World) (f:Nat→Value),Blk w b t (row n f)→
  Blk (w.setCells b (o+k) ((List.range' k m).map g)) b t (row n fun i=>if o+k≤i∧i<o+k+m then g (i-o)else f i)
 |0,k,o,w,f,h=>by
  simp only [List.range'_zero,List.map_nil,World.setCells]
  rw [row_congr (f:=fun i=>if o+k≤i∧i<o+k+0 then g (i-o)else f i) (g:=f) (fun i hi=>if_neg (by omega))]
  exact h
 |m+1,k,o,w,f,h=>by
  rw [List.range'_succ,List.map_cons,World.setCells]
  have h1:=h.set (o+k) (g k)
  rw [row_set]at h1
  have h2:=setCells_blk g m (k+1) o _ _ h1
  rw [←Nat.add_assoc]at h2
  rw [row_congr (g:=fun i=>if o+k+1≤i∧i<o+k+1+m then g (i-o)else if i=o+k then g k else f i) (fun i hi=>?_)]
  · exact h2
  ·
   by_cases e:i=o+k
   ·
    subst e
    rw [if_pos (by omega),if_neg (by omega),if_pos rfl,Nat.add_sub_cancel_left]
   ·
    by_cases h3:o+k+1≤i∧i<o+k+1+m
    · rw [if_pos (by omega),if_pos h3]
    · rw [if_neg (by omega),if_neg h3,if_neg e]
theorem blk_mid {w:World} {b:Nat} {t:TypeId} {n:Nat} {f:Nat→Value} (h:Blk w b t (row n f)) (o m:Nat) (g:Nat→Value):Blk (w.setCells b o (row m g).toList) b t (row n (over o m g f)):=by
 have:=setCells_blk g m 0 o w f h
 rw [row_toList,List.range_eq_range']
 simp only [Nat.add_zero]at this
 exact this
theorem blk_mid_other {w:World} {b b':Nat} {t:TypeId} {cs:Array Value} (hb:b≠b'):∀(vs:List Value) (o:Nat) (w:World),Blk w b t cs→Blk (w.setCells b' o vs) b t cs
 |[],_,_,h=>h
 |v::r,o,w,h=>by
  rw [World.setCells]
  exact blk_mid_other (w:=w) hb r (o+1) _ (h.other (p:=⟨b',o,none⟩) hb v)
theorem below_setCells {B:Nat} {b:Nat} (hB:B≤b):∀(vs:List Value) (o:Nat) {a w:World},Below B a w→Below B a (w.setCells b o vs)
 |[],_,_,_,h=>h
 |v::r,o,a,w,h=>by
  rw [World.setCells]
  exact below_setCells hB r (o+1) (h.setCell hB v)
section
variable {P : Program} {ops : Array Oper} {rest : List Oper} {o : Oper} {a : Act} {w : World} {Q : Exit → Act → World → Prop}
theorem wpList_wanted (hw:Region.wanted o (yielded ops a.tmps)=true)
  (h:∀K:Act→World→Prop,(∀a w,wpList P ops Q rest a w→K a w)→o.wp P a w K Q):wpList P ops Q (o::rest) a w:=
 wpList_step fun K hK=>by rw [if_pos hw];exact h K hK
theorem wpList_mid (hw:Region.wanted o (yielded ops a.tmps)=true) (ty:TypeId) (x:Operand) (ho:o.op=.load ty x)
  (b off m:Nat) (hx:a.eval x=.pointer (some ⟨b,off,none⟩)) {t:TypeId} {n:Nat} {f:Nat→Value} (hb:Blk w b t (row n f)) (hm:off+m≤n) (d:TypeDesc)
  (hu:P.underlying ty=some d) (hd:d.isRow=true) (hi:(P.info? ty).map (·.size)=some m)
  (h:wpList P ops Q rest (a.put o.dst (.agg (row m fun j=>f (off+j)))) w):wpList P ops Q (o::rest) a w:=
 wpList_wanted hw fun _ hK=>wp_load_mid ty x ho b off hx _ d (row_range hb off m hm) hu hd (by rw [hi];simp) (hK _ _ h)
theorem wpList_whole (hw:Region.wanted o (yielded ops a.tmps)=true) (ty:TypeId) (x:Operand) (ho:o.op=.load ty x)
  (b:Nat) (hx:a.eval x=.pointer (some ⟨b,0,none⟩)) {t:TypeId} {cs:Array Value} (hb:Blk w b t cs) (d:TypeDesc)
  (hu:P.underlying ty=some d) (hd:d.isRow=true) (hi:(P.info? ty).map (·.size)=some cs.size)
  (h:wpList P ops Q rest (a.put o.dst (.agg cs)) w):wpList P ops Q (o::rest) a w:=
 wpList_wanted hw fun _ hK=>wp_load_row ty x ho b hx t cs (0,0) d hb hu (by cases d<;>first|rfl|cases hd) hi (hK _ _ h)
theorem wpList_put (hw:Region.wanted o (yielded ops a.tmps)=true) (ty:TypeId) (x y:Operand) (ho:o.op=.store ty x y)
  (b off m:Nat) (g:Nat→Value) (hx:a.eval x=.pointer (some ⟨b,off,none⟩)) (hy:a.eval y=.agg (row m g)) {t:TypeId} {n:Nat} {f:Nat→Value} (hb:Blk w b t (row n f)) (hm:off+m≤n)
  (hi:(P.info? ty).map (·.size)=some m) (h1:∀i,i<m→(g i).oneCell'=true)
  (h:wpList P ops Q rest (a.put o.dst undef) (w.setCells b off (row m g).toList)):wpList P ops Q (o::rest) a w:=
 wpList_wanted hw fun _ hK=>wp_store_mid ty x y ho b off _ hx hy (by rw [row_size];exact row_there hb off m hm) (by rw [hi,row_size]) (row_one h1) (hK _ _ h)
end
end Rws
namespace Mem
theorem own_cap {w:World} {base:Nat} {e:TypeId} {size n c:Nat} {A:Option Addr} {xs:List Value} (h:w.ownsRow base e size (.slice A n c) n xs):(A=none→c=0)∧n≤c:=by
 obtain⟨_,⟨hv,h0⟩|⟨g,cap,cur,hv,_,hh,hn,_⟩⟩:=h
 · cases hv;exact⟨fun _=>rfl,Nat.le_refl _⟩
 · cases hv;exact⟨(fun h=>by cases h),hn⟩
theorem own_lo {w:World} {base:Nat} {e:TypeId} {size n c:Nat} {A:Option Addr} {xs:List Value} (h:w.ownsRow base e size (.slice A n c) n xs):∀a,A=some a→base≤a.block:=by
 obtain⟨_,⟨hv,h0⟩|⟨g,cap,cur,hv,hb,hh,hn,_⟩⟩:=h
 · cases hv;exact fun a h=>by cases h
 · cases hv;exact fun a h=>by cases h;exact hb
end Mem
namespace Ms
open Go.ChangeShapes Go.WideShapes Go.ChangeAt Go.RowKit Mem Go.Proofs.YtljpoibnkkcjdaaGreatDoor.Op
structure Msg where
 k:Int
 f:Int
 n:Int
 zs:List Int
instance:Inhabited Msg:=⟨⟨0,0,0,[]⟩⟩
def msgL (m:Msg) (A:Option Addr) (c:Nat):List Value:=[.int .i64 m.k,.int .i64 m.f,.int .i64 m.n,.slice A m.zs.length c]
def MsgsAt (w:World) (B:Nat) (A:Option Addr) (ms:List Msg):Prop:=
 ∃xs,Rd w B 4 A ms.length xs∧∀i m,ms[i]?=some m→∃a c,(xs.drop (i*4)).take 4=msgL m a c∧(a=none→c=0)∧m.zs.length≤c∧m.zs.length*8≤140737488351232∧Rd w B 1 a m.zs.length (intsV m.zs)
section
variable {w w' : World} {B B' : Nat} {A : Option Addr} {ms : List Msg}
theorem MsgsAt.keep (h:MsgsAt w B A ms) (hk:∀b o,b<B→ w'.cell? ⟨b,o,none⟩= w.cell? ⟨b,o,none⟩):MsgsAt w' B A ms:=by
 obtain⟨xs,hr,hx⟩:=h
 refine⟨xs,hr.keep hk,fun i m hm=>?_⟩
 obtain⟨a,c,h1,h2,h3,h4,h5⟩:=hx i m hm
 exact⟨a,c,h1,h2,h3,h4,h5.keep hk⟩
theorem MsgsAt.more (h:MsgsAt w B A ms) (hB:B≤B'):MsgsAt w B' A ms:=by
 obtain⟨xs,hr,hx⟩:=h
 refine⟨xs,hr.more hB,fun i m hm=>?_⟩
 obtain⟨a,c,h1,h2,h3,h4,h5⟩:=hx i m hm
 exact⟨a,c,h1,h2,h3,h4,h5.more hB⟩
theorem MsgsAt.below (h:MsgsAt w B A ms) (hb:Below B w w'):MsgsAt w' B A ms:=h.keep fun b o hp=>hb.cell (p:=⟨b,o,none⟩) hp
theorem MsgsAt.drewN (h:MsgsAt w B A ms) (k:Nat):MsgsAt (w.drewN k) B A ms:=h
theorem MsgsAt.drew (h:MsgsAt w B A ms):MsgsAt w.drew B A ms:=h
theorem MsgsAt.alloc (h:MsgsAt w B A ms) (hB:B≤w.heap.size) (o:Obj):MsgsAt (w.alloc o) B A ms:=
 h.keep fun b o' hp=>World.cell?_alloc_lt w o _ (show b<w.heap.size by omega)
theorem MsgsAt.nil (w:World) (B:Nat) (A:Option Addr):MsgsAt w B A []:=⟨[],Rd.nil _ _ _ _,fun i m h=>by simp at h⟩
theorem MsgsAt.at (h:MsgsAt w B A ms) {i:Nat} {m:Msg} (hm:ms[i]?=some m):∃b o a c,A=some ⟨b,o,none⟩∧b<B∧ w.cell? ⟨b,o+i*4,none⟩=some (.int .i64 m.k)∧ w.cell? ⟨b,o+i*4+1,none⟩=some (.int .i64 m.f)∧
  w.cell? ⟨b,o+i*4+2,none⟩=some (.int .i64 m.n)∧ w.cell? ⟨b,o+i*4+3,none⟩=some (.slice a m.zs.length c)∧(a=none→c=0)∧m.zs.length≤c∧m.zs.length*8≤140737488351232∧Rd w B 1 a m.zs.length (intsV m.zs):=by
 obtain⟨xs,hr,hx⟩:=h
 obtain⟨a,c,h1,h2,h3,h4,h5⟩:=hx i m hm
 have hi:i<ms.length:=(List.getElem?_eq_some_iff.1 hm).1
 obtain⟨b,o,e,hb,hc⟩:=hr.2 (by omega)
 have hg:∀j v,j<4→(msgL m a c)[j]?=some v→ w.cell? ⟨b,o+i*4+j,none⟩=some v:=fun j v hj hv=>by
  rw [←h1,List.getElem?_take,if_pos hj,List.getElem?_drop]at hv
  have:=hc _ _ hv
  rwa [←Nat.add_assoc]at this
 exact⟨b,o,a,c,e,hb,hg 0 _ (by omega) rfl,hg 1 _ (by omega) rfl,hg 2 _ (by omega) rfl,hg 3 _ (by omega) rfl,h2,h3,h4,h5⟩
end
section
variable {H : Type} {enc : TypeId × Value → H} {W : World} {base : Nat} {spare : Nat → Bool} {held : Bool}
end
end Ms
namespace Nd
open Go.RowKit Mem
theorem ownsRow_below {w w':World} {base:Nat} {e:TypeId} {size:Nat} {v:Value} {n:Nat} {xs:List Value} (h:w.ownsRow base e size v n xs) (hb:Below w.heap.size w w'):w'.ownsRow base e size v n xs:=
 h.kept (row:=none) ⟨hb.os,hb.tape,hb.output,hb.size,fun g hg _=>hb.block g hg⟩ (by cases v.ownBlock<;>simp)
theorem own_setRow {w:World} {base:Nat} {e:TypeId} {size:Nat} {v:Value} {n:Nat} {xs:List Value} (h:w.ownsRow base e size v n xs) {g:Nat} (hg:g<base) (R:Array Value):(w.setRow g R).ownsRow base e size v n xs:=by
 obtain⟨hl,h|⟨b,cap,cur,hv,hb,hh,hr⟩⟩:=h
 · exact⟨hl,.inl h⟩
 · exact⟨hl,.inr ⟨b,cap,cur,hv,hb,(setRow_other w g b R (by omega)).trans hh,hr⟩⟩
end Nd
namespace Ms
open Go.RowKit Mem
theorem own_kept {w w':World} {base:Nat} {e:TypeId} {size:Nat} {v:Value} {n:Nat} {xs:List Value} {row:Option Nat} (h:w.ownsRow base e size v n xs) (hg:w.grownBy w' row)
  (hr:∀g,row=some g→∃cur t,w.heap[g]?=some (.cells cur t (0,0))∧t≠e):w'.ownsRow base e size v n xs:=by
 obtain⟨hl,h|⟨b,cap,cur,hv,hb,hh,hc⟩⟩:=h
 · exact⟨hl,.inl h⟩
 ·
  have hlt:b<w.heap.size:=(Array.getElem?_eq_some_iff.1 hh).1
  have hne:some b≠row:=fun e1=>by
   obtain⟨cur',t,h1,h2⟩:=hr b e1.symm
   rw [h1]at hh
   injection hh with hh
   injection hh with _ h4 _
   exact h2 h4
  exact⟨hl,.inr ⟨b,cap,cur,hv,hb,(hg.block b hlt hne).trans hh,hc⟩⟩
theorem own_is {w:World} {base:Nat} {e:TypeId} {size:Nat} {v:Value} {n:Nat} {xs:List Value} (h:w.ownsRow base e size v n xs) {t':TypeId} (ht:e≠t'):∀g,v.ownBlock=some g→∃cur t,w.heap[g]?=some (.cells cur t (0,0))∧t≠t':=fun g hg=>by
 obtain⟨hl,⟨rfl,_⟩|⟨b,cap,cur,rfl,hb,hh,hc⟩⟩:=h
 · cases hg
 ·
  injection hg with hg
  subst hg
  exact⟨cur,e,hh,ht⟩
end Ms
namespace Vt
open Go.RowKit Mem
theorem own_not {w:World} {g:Nat} {e:TypeId} {size n:Nat} {v:Value} {xs:List Value} (h:w.ownsRow (g+1) e size v n xs):some g≠v.ownBlock:=fun hh=>by
 have:=(h.lt g hh.symm).1
 omega
theorem own_setCell {w:World} {base g:Nat} {e:TypeId} {size n:Nat} {v:Value} {xs:List Value} (h:w.ownsRow base e size v n xs) (hg:g<base) {i:Nat} (u:Value):(w.setCell ⟨g,i,none⟩ u).ownsRow base e size v n xs:=by
 obtain⟨hl,h|⟨b,cap,cur,hv,hb,hh,hr⟩⟩:=h
 · exact⟨hl,.inl h⟩
 · exact⟨hl,.inr ⟨b,cap,cur,hv,hb,(Below.heap_setCell w ⟨g,i,none⟩ u b (by show b≠g;omega)).trans hh,hr⟩⟩
end Vt
namespace Vt
def cnt (L:Nat→Int) (I:Nat→Bool) (v:Int):Nat→Nat
 |0=>0
 |k+1=>cnt L I v k+if I k=true∧L k=v then 1 else 0
def tot (I:Nat→Bool):Nat→Nat
 |0=>0
 |k+1=>tot I k+if I k=true then 1 else 0
def vt (L:Nat→Int) (I:Nat→Bool):Nat→Nat×Int
 |0=>(0,0)
 |k+1=>if I k=true∧(vt L I k).1<cnt L I (L k) 4 then(cnt L I (L k) 4,L k)else vt L I k
def rv (L:Nat→Int) (I:Nat→Bool):Nat→Int
 |0=>0
 |k+1=>if I k=true∧(cnt L I (rv L I k) 4<cnt L I (L k) 4∨tot I k=0)then L k else rv L I k
theorem cnt_le (L:Nat→Int) (I:Nat→Bool) (v:Int):∀k,cnt L I v k≤k
 |0=>Nat.le_refl _
 |k+1=>by have:=cnt_le L I v k;unfold cnt;split<;>omega
theorem tot_le (I:Nat→Bool):∀k,tot I k≤k
 |0=>Nat.le_refl _
 |k+1=>by have:=tot_le I k;unfold tot;split<;>omega
theorem cnt_pos {L:Nat→Int} {I:Nat→Bool} {k:Nat} (h:I k=true):∀ {n:Nat},k<n→0<cnt L I (L k) n
 |0,hk=>by omega
 |n+1,hk=>by
  unfold cnt
  by_cases e:k=n
  · subst e;rw [if_pos ⟨h,rfl⟩];omega
  · have:=cnt_pos (L:=L) h (show k<n by omega);omega
theorem vt_le (L:Nat→Int) (I:Nat→Bool):∀k,(vt L I k).1≤4
 |0=>Nat.zero_le _
 |k+1=>by unfold vt;split;exact cnt_le L I _ 4;exact vt_le L I k
theorem vt_rv (L:Nat→Int) (I:Nat→Bool):∀k,k≤4→(tot I k=0→vt L I k=(0,0)∧rv L I k=0)∧(0<tot I k→vt L I k=(cnt L I (rv L I k) 4,rv L I k))
 |0,_=>⟨fun _=>⟨rfl,rfl⟩,fun h=>absurd h (Nat.lt_irrefl 0)⟩
 |k+1,hk=>by
  obtain⟨h0,h1⟩:=vt_rv L I k (by omega)
  cases hI:I k with
  |false=>
   have e1:tot I (k+1)=tot I k:=by simp [tot,hI]
   have e2:vt L I (k+1)=vt L I k:=by simp [vt,hI]
   have e3:rv L I (k+1)=rv L I k:=by simp [rv,hI]
   rw [e1,e2,e3];exact⟨h0,h1⟩
  |true=>
   have e1:tot I (k+1)=tot I k+1:=by simp [tot,hI]
   refine⟨fun h=>by omega,fun _=>?_⟩
   have hp:=cnt_pos (L:=L) hI (show k<4 by omega)
   rcases Nat.eq_zero_or_pos (tot I k)with ht|ht
   ·
    obtain⟨hv,hr⟩:=h0 ht
    have e2:vt L I (k+1)=(cnt L I (L k) 4,L k):=by simp [vt,hI,hv,hp]
    have e3:rv L I (k+1)=L k:=by simp [rv,hI,ht]
    rw [e2,e3]
   ·
    have hv:=h1 ht
    by_cases hc:cnt L I (rv L I k) 4<cnt L I (L k) 4
    ·
     have e2:vt L I (k+1)=(cnt L I (L k) 4,L k):=by simp [vt,hI,hv,hc]
     have e3:rv L I (k+1)=L k:=by simp [rv,hI,hc]
     rw [e2,e3]
    ·
     have e2:vt L I (k+1)=vt L I k:=by simp [vt,hI,hv,hc]
     have e3:rv L I (k+1)=rv L I k:=by simp [rv,hI,hc];omega
     rw [e2,e3];exact hv
def val (L:Nat→Int) (I:Nat→Bool):Int:=rv L I 4
def strong (L:Nat→Int) (I:Nat→Bool):Bool:=decide (tot I 4<2*(vt L I 4).1)
def agrees (L:Nat→Int) (I:Nat→Bool) (i:Nat):Bool:=decide (0<tot I 4)&&decide (L i=val L I)
theorem vt_val (L:Nat→Int) (I:Nat→Bool):(vt L I 4).2=val L I:=by
 obtain⟨h0,h1⟩:=vt_rv L I 4 (by omega)
 unfold val
 rcases Nat.eq_zero_or_pos (tot I 4)with ht|ht
 · rw [(h0 ht).1,(h0 ht).2]
 · rw [h1 ht]
end Vt
namespace Nd
open Go.RowKit Mem Rws
def roll0 (i:Nat):Value:=if i<4 then .bool true else .int .i64 0
def rollK (k i:Nat):Value:=if i<4 then .bool (decide (i<k))else .int .i64 0
def state0 (i:Nat):Value:=if i=2 then .int .i64 4294967296 else if i=4 then .int .i64 4294967296 else if i=5 then .bool false else .int .i64 0
set_option maxRecDepth 100000 in
theorem roll_any (w:World):Calls Tryz.prog 26 #[] w fun e w'=>e=.returned (.agg (row 12 roll0))∧Below w.heap.size w w':=by
 go_enter Tryz.func26,Tryz.ntmps26
 go_wp2_with fail
 go_loopw [3] (fun i wr=>∃k:Nat,k≤4∧i=.int .i64 k∧Blk wr w.heap.size 32 (row 12 (rollK 0))∧Blk wr (w.heap.size+1) 32 (row 12 (rollK k))∧Below w.heap.size w wr) (fun i _=>4-(intOf i).toNat)
 case atStart=>exact⟨0,by omega,rfl,(Blk.new rfl).alloc _,Blk.new (by simp),((Below.refl _ _).alloc (Nat.le_refl _) _).alloc (by simp) _⟩
 case round=>
  obtain⟨k,hk,rfl,b0,b1,hb⟩:=hrel
  by_cases hlt:k<4
  ·
   have c1:=b1.cell k
   have f1:=b1.thaw k
   rw [row_at (by omega),show rollK k k=.bool (decide (k<k))by unfold rollK;rw [if_pos hlt]]at c1
   go_wp2_with fail
   refine⟨⟨k+1,by omega,by go_num,b0.other (by simp) _,?_,hb.setCell (by simp) _⟩,by simp [intOf];omega⟩
   have:=b1.set k (.bool true)
   rw [row_set,row_congr (g:=rollK (k+1)) (fun i hi=>?_)]at this
   · exact this
   ·
    unfold rollK
    by_cases e:i=k
    · subst e;rw [if_pos rfl,if_pos hlt];simp
    ·
     rw [if_neg e]
     by_cases h4:i<4
     · rw [if_pos h4,if_pos h4];congr 1;simp;omega
     · rw [if_neg h4,if_neg h4]
  ·
   obtain rfl:k=4:=by omega
   clear hlt
   go_wp2_with(first
    |(refine wpList_whole rfl 32 _ rfl (w.heap.size+1) rfl b1 _ Tryz.underlying32 rfl (by rw [row_size];kernel_rfl) ?_)
    |(refine wpList_store_row rfl 32 _ _ rfl w.heap.size (row 12 (rollK 4)) rfl rfl 32 _ b0 (by rw [row_size];kernel_rfl) (by rw [row_size,row_size]) (row_one fun i hi=>by unfold rollK;split<;>rfl) ?_))
   refine ret_row rfl rfl (b0.setRow _) Tryz.underlying32 rfl (by rw [row_size];kernel_rfl) rfl ⟨?_,below_setRow hb (Nat.le_refl _) _⟩
   rw [row_congr (f:=rollK 4) (g:=roll0) (fun i hi=>by unfold rollK roll0;split<;>simp [*])]
end Nd
namespace Nd
open Go.RowKit Mem Rws
def rollF (f:Nat→Bool) (m j:Nat→Int) (i:Nat):Value:=if i<4 then .bool (f i)else if i<8 then .int .i64 (m (i-4))else .int .i64 (j (i-8))
theorem rollF_in {f:Nat→Bool} {m j:Nat→Int} {k:Nat} (h:k<4):rollF f m j k=.bool (f k):=by unfold rollF;rw [if_pos h]
theorem rollF_miss {f:Nat→Bool} {m j:Nat→Int} {k:Nat} (h:k<4):rollF f m j (4+k)=.int .i64 (m k):=by
 unfold rollF;rw [if_neg (by omega),if_pos (by omega),Nat.add_sub_cancel_left]
theorem rollF_join {f:Nat→Bool} {m j:Nat→Int} {k:Nat} (h:k<4):rollF f m j (8+k)=.int .i64 (j k):=by
 unfold rollF;rw [if_neg (by omega),if_neg (by omega),Nat.add_sub_cancel_left]
theorem rollF_one (f:Nat→Bool) (m j:Nat→Int) (i:Nat):(rollF f m j i).oneCell'=true:=by unfold rollF;split;rfl;split<;>rfl
def cntTo (f:Nat→Bool):Nat→Nat
 |0=>0
 |k+1=>if f k then cntTo f k+1 else cntTo f k
theorem cntTo_le (f:Nat→Bool):∀k,cntTo f k≤k
 |0=>Nat.le_refl _
 |k+1=>by have:=cntTo_le f k;unfold cntTo;split<;>omega
theorem run_index_row {P:Program} {t:TypeId} {n:Nat} {e:TypeId} (hu:P.underlying t=some (.array n e)) {u:TypeDesc} (he:P.underlying e=some u) (hr:u.isRow=false) (hs:(P.info? e).map (·.size)=some 1) (g:Nat→Value) (k:Nat) (hk:k<n) (w:World):
  (Instr.index t (.agg (row n g)) (.int .i64 (k:Int))).run P w=.ok (g k) w:=by
 have hp:=Flat.run_part_one he hr (row n g) (k*1) (g k) (by rw [Nat.mul_one];exact row_at hk) w
 obtain⟨i,hi,hz⟩:=Option.map_eq_some_iff.1 hs
 have h0:0≤(k:Int)∧(k:Int)<(n:Int):=by omega
 unfold Instr.index
 simp only [Sem.run_bind,asIntOf,Sem.run_pure,Result.andThen_ok,run_underlying hu,h0,and_self,if_true,sizeOf,typeInfo,run_program,hi,hz,Int.toNat_natCast,hp]
set_option maxRecDepth 100000 in
set_option maxHeartbeats 1000000 in
theorem count_any (f:Nat→Bool) (m j:Nat→Int) (w:World):Calls Tryz.prog 83 #[.agg (row 12 (rollF f m j))] w fun e w'=>e=.returned (.int .i64 (cntTo f 4))∧Below w.heap.size w w':=by
 have b:Blk (w.alloc (.cells (row 12 (rollF f m j)) 32)) w.heap.size 32 (row 12 (rollF f m j)):=Blk.new rfl
 have hix:∀k:Nat,k<4→∀w,(Instr.index 29 (.agg (row 4 fun i=>rollF f m j i)) (.int .i64 (k:Int))).run Tryz.prog w=.ok (.bool (f k)) w:=fun k hk w=>by
  rw [run_index_row Tryz.underlying29 Tryz.underlying4 rfl (by kernel_rfl) _ k hk,rollF_in hk]
 have Hix:=Lib.hid hix
 clear hix
 go_enter Tryz.func83,Tryz.ntmps83
 go_wp2_with(refine wpList_mid rfl 29 _ rfl w.heap.size 0 4 rfl b (by omega) _ Tryz.underlying29 rfl (by kernel_rfl) ?_)
 clear b
 go_loop [3,8] (fun n i=>∃k:Nat,k≤4∧i=.int .i64 k∧n=.int .i64 (cntTo f k)) (fun _ i=>4-(intOf i).toNat)
 case atStart=>exact⟨0,by omega,rfl,rfl⟩
 case round=>
  obtain⟨k,hk,rfl,rfl⟩:=hrel
  have hc:=cntTo_le f k
  by_cases hlt:k<4
  ·
   have hx:=Hix.out k hlt
   cases hf:f k
   ·
    have HS:=Lib.hid (show cntTo f (k+1)=cntTo f k by rw [cntTo,hf];rfl)
    rw [hf]at hx
    clear hf
    go_wp2_with fail
    go_round
    case rel=>exact⟨k+1,by omega,by go_num,by rw [HS.out]⟩
    case measure=>simp [intOf];omega
   ·
    have HS:=Lib.hid (show cntTo f (k+1)=cntTo f k+1 by rw [cntTo,hf];rfl)
    rw [hf]at hx
    clear hf
    go_wp2_with fail
    go_round
    case rel=>exact⟨k+1,by omega,by go_num,by rw [HS.out];go_num⟩
    case measure=>simp [intOf];omega
  ·
   obtain rfl:k=4:=by omega
   clear hlt
   go_wp2_with fail
   go_ret
   exact⟨rfl,(Below.refl _ _).alloc (Nat.le_refl _) _⟩
def okAt (f:Nat→Bool) (m j:Nat→Int) (k:Nat):Bool:=bif f k then decide (0≤m k)&&decide (m k≤2)&&decide (j k=0)else decide (m k=0)&&decide (0≤j k)&&decide (j k<3)
def okTo (f:Nat→Bool) (m j:Nat→Int):Nat→Bool
 |0=>true
 |k+1=>okTo f m j k&&okAt f m j k
theorem okTo_bad {f:Nat→Bool} {m j:Nat→Int} {k:Nat} (hb:okAt f m j k=false):∀ {n:Nat},k<n→okTo f m j n=false
 |0,h=>absurd h (by omega)
 |n+1,h=>by
  unfold okTo
  by_cases e:k=n
  · subst e;rw [hb,Bool.and_false]
  · rw [okTo_bad hb (by omega),Bool.false_and]
def okP (p:Bool) (q r:Int):Bool:=bif p then decide (0≤q)&&decide (q≤2)&&decide (r=0)else decide (q=0)&&decide (0≤r)&&decide (r<3)
theorem okAt_is {f:Nat→Bool} {m j:Nat→Int} {k:Nat} {p:Bool} {q r:Int} (hp:f k=p) (hq:m k=q) (hr:j k=r):okAt f m j k=okP p q r:=by
 subst hp;subst hq;subst hr;rfl
theorem okTo_on {f:Nat→Bool} {m j:Nat→Int} {k:Nat} {p:Bool} {q r:Int} (h:okTo f m j k=true) (hp:f k=p) (hq:m k=q) (hr:j k=r) (ho:okP p q r=true):okTo f m j (k+1)=true:=by
 unfold okTo;rw [h,okAt_is hp hq hr,ho];rfl
theorem okTo_off {f:Nat→Bool} {m j:Nat→Int} {k:Nat} {p:Bool} {q r:Int} (hk:k<4) (hp:f k=p) (hq:m k=q) (hr:j k=r) (ho:okP p q r=false):okTo f m j 4=false:=
 okTo_bad ((okAt_is hp hq hr).trans ho) hk
theorem okP_in {q r:Int}:okP true q r=(decide (0≤q)&&decide (q≤2)&&decide (r=0)):=rfl
theorem okP_out {q r:Int}:okP false q r=(decide (q=0)&&decide (0≤r)&&decide (r<3)):=rfl
set_option maxRecDepth 100000 in
set_option maxHeartbeats 4000000 in
theorem good_any (f:Nat→Bool) (m j:Nat→Int) (w:World):Calls Tryz.prog 58 #[.agg (row 12 (rollF f m j))] w fun e w'=>e=.returned (.bool (okTo f m j 4))∧Below w.heap.size w w':=by
 have b:Blk (w.alloc (.cells (row 12 (rollF f m j)) 32)) w.heap.size 32 (row 12 (rollF f m j)):=Blk.new rfl
 have HB:=Lib.hid b
 clear b
 go_enter Tryz.func58,Tryz.ntmps58
 go_wp2_with fail
 go_loop [4] (fun i=>∃k:Nat,k≤4∧i=.int .i64 k∧okTo f m j k=true) (fun i=>4-(intOf i).toNat)
 case atStart=>exact⟨0,by omega,rfl,rfl⟩
 case round=>
  obtain⟨k,hk,rfl,hok⟩:=hrel
  have HK:=Lib.hid hok
  clear hok
  by_cases hlt:k<4
  ·
   have hx:=HB.out.cell k
   have hy:=HB.out.cell (4+k)
   have hz:=HB.out.cell (8+k)
   rw [row_at (by omega),rollF_in hlt]at hx
   rw [row_at (by omega),rollF_miss hlt]at hy
   rw [row_at (by omega),rollF_join hlt]at hz
   generalize hp:f k=p at hx
   generalize hq:m k=q at hy
   generalize hr:j k=r at hz
   have HP:=Lib.hid hp
   have HQ:=Lib.hid hq
   have HR:=Lib.hid hr
   clear hp hq hr
   cases p
   all_goals go_wp2_with fail
   all_goals first
    |(
      refine⟨⟨k+1,by omega,by go_num,okTo_on HK.out HP.out HQ.out HR.out ?_⟩,by simp [intOf];omega⟩
      first|rw [okP_in]|rw [okP_out]
      simp only [Bool.and_eq_true,decide_eq_true_eq];omega)
    |(
      go_ret
      refine⟨ret_bool (Eq.symm (okTo_off hlt HP.out HQ.out HR.out ?_)),(Below.refl _ _).alloc (Nat.le_refl _) _⟩
      first|rw [okP_in]|rw [okP_out]
      rw [Bool.eq_false_iff]
      intro hh
      simp only [Bool.and_eq_true,decide_eq_true_eq]at hh
      omega)
  ·
   obtain rfl:k=4:=by omega
   clear hlt
   go_wp2_with fail
   go_ret
   exact⟨by rw [HK.out];rfl,(Below.refl _ _).alloc (Nat.le_refl _) _⟩
end Nd
namespace Rg
section
variable {P : Program} {ops : Array Oper} {Q : Exit → Act → World → Prop} {md : Region.Mode} {S T : World → Prop} {reads : List Nat}
def anc (md:Region.Mode) (ops:Array Oper) (i:Nat):Nat→Nat→Bool
 |0,_=>false
 |f+1,j=>match ops[j]? with
  |none=>false
  |some o=>o.after.any fun e=>Region.binds md e&&(e.on==i||anc md ops i f e.on)
def Closed (md:Region.Mode) (ops:Array Oper) (L:Array Bool):Prop:=∀j o,ops[j]?=some o→L.getD j false=true→∀e∈o.after,Region.binds md e=true→L.getD e.on false=true
def closedB (md:Region.Mode) (ops:Array Oper) (L:Array Bool):Bool:=(List.range ops.size).all fun j=> !L.getD j false||((ops[j]?).map (·.after.all fun e=> !Region.binds md e||L.getD e.on false)).getD true
theorem closed_of {L:Array Bool} (h:closedB md ops L=true):Closed md ops L:=by
 intro j o ho hl e he hb
 have hj:=(Array.getElem?_eq_some_iff.1 ho).1
 have h1:=List.all_eq_true.1 h j (List.mem_range.2 hj)
 rw [hl,ho]at h1
 simp only [Bool.not_true,Bool.false_or,Option.map_some,Option.getD_some]at h1
 have h2:=Array.all_eq_true_iff_forall_mem.1 h1 e he
 rw [hb]at h2
 simpa using h2
theorem anc_listed {L:Array Bool} {i:Nat} (hc:Closed md ops L):∀(f j:Nat),anc md ops i f j=true→(∀o,ops[j]?=some o→∀e∈o.after,Region.binds md e=true→L.getD e.on false=true)→L.getD i false=true
 |0,_,h,_=>by cases h
 |f+1,j,h,hj=>by
  unfold anc at h
  cases ho:ops[j]? with
  |none=>rw [ho]at h;cases h
  |some o=>
   rw [ho]at h
   simp only [←Array.any_toList]at h
   obtain⟨e,he0,h1⟩:=List.any_eq_true.1 h
   have he:e∈o.after:=Array.mem_toList_iff.1 he0
   simp only [Bool.and_eq_true,Bool.or_eq_true,beq_iff_eq]at h1
   obtain⟨hb,rfl|h2⟩:=h1
   · exact hj o ho e he hb
   · exact anc_listed hc f e.on h2 fun o' ho' e' he' hb'=>hc e.on o' ho' (hj o ho e he hb) e' he' hb'
def late (md:Region.Mode) (ops:Array Oper) (reads:List Nat) (j:Nat):Bool:=reads.any fun i=>i !=j&& !anc md ops i ops.size j
def wpAnyR (P:Program) (md:Region.Mode) (ops:Array Oper) (Q:Exit→Act→World→Prop) (reads:List Nat) (S:World→Prop):Nat→Array Bool→Act→World→Prop
 |0,listed,a,w=>Region.ready md ops listed=[]∧Q .normal a w
 |fuel+1,listed,a,w=>
  (Region.ready md ops listed=[]→Q .normal a w)∧
  ∀i∈Region.ready md ops listed,wpOp P ops Q i (fun a' w'=>(late md ops reads i=true→S w→S w')∧wpAnyR P md ops Q reads S fuel (listed.setIfInBounds i true) a' w') a w
theorem wpAny_of_R:∀(fuel:Nat) (listed:Array Bool) (a:Act) (w:World),wpAnyR P md ops Q reads S fuel listed a w→wpAny P md ops Q fuel listed a w
 |0,_,_,_,h=>h
 |fuel+1,_,_,_,h=>⟨h.1,fun i hi=>wpOp_mono (fun a' w' h'=>wpAny_of_R fuel _ a' w' h'.2) (h.2 i hi)⟩
theorem closed_set {L:Array Bool} {j:Nat} (hc:Closed md ops L) (hj:j∈Region.ready md ops L):Closed md ops (L.setIfInBounds j true):=by
 obtain⟨_,oj,hoj,hall⟩:=mem_ready.1 hj
 intro k o ho hl e he hb
 by_cases hk:j=k
 ·
  subst hk
  rw [hoj]at ho
  obtain rfl:=Option.some.inj ho
  exact getD_set_true (hall e he hb)
 ·
  rw [getD_set_ne false hk]at hl
  exact getD_set_true (hc k o ho hl e he hb)
theorem firstR {i:Nat} {oi:Oper} {v:Value} (hi:ops[i]?=some oi) (hsel:∀(j:Nat) (o:Oper) cs b,ops[j]?=some o→o.op≠ .select cs b)
  (hQ:∀c a w,Q (.panic c) (a.put oi.dst v) w→Q (.panic c) a w) (hT:(∀w,T w)∨(i∈reads∧T=S)):
  ∀(fuel:Nat) (listed:Array Bool) (a:Act) (w:World),Closed md ops listed→
   (∀j oj,ops[j]?=some oj→j≠i→listed.getD j true=false→(∀e∈oj.after,Region.binds md e=true→e.on≠i)→oi.apart ops oj=true)→
   i∈Region.ready md ops listed→YieldsIf P ops T oi v a→T w→
   wpAnyR P md ops Q reads S fuel (listed.setIfInBounds i true) (a.put oi.dst v) w→wpAnyR P md ops Q reads S (fuel+1) listed a w:=by
 intro fuel
 induction fuel with
 |zero=>
  intro listed a w _ _ hr hy hS H
  refine⟨fun h=>(by rw [h]at hr;cases hr),fun j hj=>?_⟩
  by_cases hji:j=i
  · subst hji;exact hy.wpOp hi hS ⟨fun _ h=>h,H⟩
  ·
   have:=ready_mono hj hji
   rw [H.1]at this
   cases this
 |succ fuel ih=>
  intro listed a w hc hfree hr hy hS H
  refine⟨fun h=>(by rw [h]at hr;cases hr),fun j hj=>?_⟩
  by_cases hji:j=i
  · subst hji;exact hy.wpOp hi hS ⟨fun _ h=>h,H⟩
  ·
   have h1:=H.2 j (ready_mono hj hji)
   obtain⟨hjun,oj,hoj,hall⟩:=mem_ready.1 hj
   have hiun:=(mem_ready.1 hr).1
   have hnot:∀e∈oj.after,Region.binds md e=true→e.on≠i:=fun e he hb heq=>by
    have h1:=hall e he hb
    rw [heq]at h1
    rcases Nat.lt_or_ge i listed.size with h'|h'
    · simp [h']at hiun h1;rw [hiun]at h1;cases h1
    · simp [Array.getElem?_eq_none h']at h1
   have hlate:i∈reads→late md ops reads j=true:=fun hmem=>by
    refine List.any_eq_true.2 ⟨i,hmem,?_⟩
    rw [Bool.and_eq_true]
    refine⟨by simpa using Ne.symm hji,?_⟩
    cases ha:anc md ops i ops.size j
    · rfl
    ·
     have h2:=anc_listed hc _ _ ha fun o ho e he hb=>by rw [hoj]at ho;obtain rfl:=Option.some.inj ho;exact hall e he hb
     rcases Nat.lt_or_ge i listed.size with h'|h'
     · simp [h']at hiun h2;rw [hiun]at h2;cases h2
     · simp [Array.getElem?_eq_none h']at h2
   have h2:=wpOp_putIf hoj (hfree j oj hoj hji hjun hnot) (fun cs b=>hsel i oi cs b hi) (fun cs b=>hsel j oj cs b hoj) hQ hy h1
   have hfree':∀k ok,ops[k]?=some ok→k≠i→(listed.setIfInBounds j true).getD k true=false→
     (∀e∈ok.after,Region.binds md e=true→e.on≠i)→oi.apart ops ok=true:=fun k ok hk hki hun hno=>by
    refine hfree k ok hk hki ?_ hno
    by_cases hjk:j=k
    · subst hjk;exact hjun
    · rw [getD_set_ne true hjk]at hun;exact hun
   refine wpOp_mono (fun a' w' h3=>⟨h3.2.1,ih (listed.setIfInBounds j true) a' w' (closed_set hc hj) hfree' (ready_mono hr (Ne.symm hji)) h3.1 ?_ ?_⟩) h2
   ·
    rcases hT with hT|⟨hmem,rfl⟩
    · exact hT _
    · exact h3.2.1 (hlate hmem) hS
   ·
    rw [Array.setIfInBounds_comm _ _ hji]
    exact h3.2.2
theorem takeP {i:Nat} {oi:Oper} {v:Value} {fuel:Nat} {listed:Array Bool} {a:Act} {w:World} (hi:ops[i]?=some oi)
  (hs:(Region.noSelect ops&&Region.free md ops listed i&&(Region.ready md ops listed).contains i&&closedB md ops listed)=true)
  (hQ:∀c a w,Q (.panic c) (a.put oi.dst v) w→Q (.panic c) a w) (hw:Region.wanted oi (yielded ops a.tmps)=true) (hy:∀w,(execOp a.eval oi).run P w=.ok (.value v) w)
  (h:wpAnyR P md ops Q reads S fuel (listed.setIfInBounds i true) (a.put oi.dst v) w):wpAnyR P md ops Q reads S (fuel+1) listed a w:=by
 simp only [Bool.and_eq_true]at hs
 obtain⟨⟨⟨h1,h2⟩,h3⟩,h4⟩:=hs
 exact firstR (T:=fun _=>True) hi (Region.noSelect_spec h1) hQ (.inl fun _=>trivial) fuel listed a w (closed_of h4) (Region.free_spec hi h2) (by simpa using h3) (.inl ⟨hw,fun w _=>hy w⟩) trivial h
theorem takeN {i:Nat} {oi:Oper} {fuel:Nat} {listed:Array Bool} {a:Act} {w:World} (hi:ops[i]?=some oi)
  (hs:(Region.noSelect ops&&Region.free md ops listed i&&(Region.ready md ops listed).contains i&&closedB md ops listed)=true)
  (hQ:∀c a w,Q (.panic c) (a.put oi.dst undef) w→Q (.panic c) a w) (hw:Region.wanted oi (yielded ops a.tmps)=false)
  (h:wpAnyR P md ops Q reads S fuel (listed.setIfInBounds i true) (a.put oi.dst undef) w):wpAnyR P md ops Q reads S (fuel+1) listed a w:=by
 simp only [Bool.and_eq_true]at hs
 obtain⟨⟨⟨h1,h2⟩,h3⟩,h4⟩:=hs
 exact firstR (T:=fun _=>True) hi (Region.noSelect_spec h1) hQ (.inl fun _=>trivial) fuel listed a w (closed_of h4) (Region.free_spec hi h2) (by simpa using h3) (.inr ⟨hw,rfl⟩) trivial h
theorem takeS {i:Nat} {oi:Oper} {v:Value} {fuel:Nat} {listed:Array Bool} {a:Act} {w:World} (hi:ops[i]?=some oi)
  (hs:(Region.noSelect ops&&Region.free md ops listed i&&(Region.ready md ops listed).contains i&&closedB md ops listed&&reads.contains i)=true)
  (hQ:∀c a w,Q (.panic c) (a.put oi.dst v) w→Q (.panic c) a w) (hw:Region.wanted oi (yielded ops a.tmps)=true) (hS:S w) (hy:∀w,S w→(execOp a.eval oi).run P w=.ok (.value v) w)
  (h:wpAnyR P md ops Q reads S fuel (listed.setIfInBounds i true) (a.put oi.dst v) w):wpAnyR P md ops Q reads S (fuel+1) listed a w:=by
 simp only [Bool.and_eq_true]at hs
 obtain⟨⟨⟨⟨h1,h2⟩,h3⟩,h4⟩,h5⟩:=hs
 exact firstR (T:=S) hi (Region.noSelect_spec h1) hQ (.inr ⟨by simpa using h5,rfl⟩) fuel listed a w (closed_of h4) (Region.free_spec hi h2) (by simpa using h3) (.inl ⟨hw,hy⟩) hS h
theorem tp (i:Nat) (oi:Oper) {v:Value} {fuel:Nat} {listed:Array Bool} {a:Act} {w:World} (hi:ops[i]?=some oi) (hy:∀w,(execOp a.eval oi).run P w=.ok (.value v) w)
 (h:wpAnyR P md ops Q reads S fuel (listed.setIfInBounds i true) (a.put oi.dst v) w) (hs:(Region.noSelect ops&&Region.free md ops listed i&&(Region.ready md ops listed).contains i&&closedB md ops listed)=true:=by kernel_rfl) (hQ:∀c a w,Q (.panic c) (a.put oi.dst v) w→Q (.panic c) a w:=by exact fun _ _ _ h=>h) (hw:Region.wanted oi (yielded ops a.tmps)=true:=by rfl):wpAnyR P md ops Q reads S (fuel+1) listed a w:=takeP hi hs hQ hw hy h
theorem tn (i:Nat) (oi:Oper) {fuel:Nat} {listed:Array Bool} {a:Act} {w:World} (hi:ops[i]?=some oi)
 (h:wpAnyR P md ops Q reads S fuel (listed.setIfInBounds i true) (a.put oi.dst undef) w) (hs:(Region.noSelect ops&&Region.free md ops listed i&&(Region.ready md ops listed).contains i&&closedB md ops listed)=true:=by kernel_rfl) (hQ:∀c a w,Q (.panic c) (a.put oi.dst undef) w→Q (.panic c) a w:=by exact fun _ _ _ h=>h) (hw:Region.wanted oi (yielded ops a.tmps)=false:=by rfl):wpAnyR P md ops Q reads S (fuel+1) listed a w:=takeN hi hs hQ hw h
theorem ts (i:Nat) (oi:Oper) {v:Value} {fuel:Nat} {listed:Array Bool} {a:Act} {w:World} (hi:ops[i]?=some oi) (hS:S w) (hy:∀w,S w→(execOp a.eval oi).run P w=.ok (.value v) w)
 (h:wpAnyR P md ops Q reads S fuel (listed.setIfInBounds i true) (a.put oi.dst v) w) (hs:(Region.noSelect ops&&Region.free md ops listed i&&(Region.ready md ops listed).contains i&&closedB md ops listed&&reads.contains i)=true:=by kernel_rfl) (hQ:∀c a w,Q (.panic c) (a.put oi.dst v) w→Q (.panic c) a w:=by exact fun _ _ _ h=>h) (hw:Region.wanted oi (yielded ops a.tmps)=true:=by rfl):wpAnyR P md ops Q reads S (fuel+1) listed a w:=takeS hi hs hQ hw hS hy h
def StepR (P:Program) (md:Region.Mode) (ops:Array Oper) (Q:Exit→Act→World→Prop) (reads:List Nat) (S:World→Prop) (fuel:Nat) (listed:Array Bool) (i:Nat) (oi:Oper) (a:Act) (w:World):Prop:=
 ∀K':Act→World→Prop,(∀a w',(late md ops reads i=true→S w→S w')→wpAnyR P md ops Q reads S fuel (listed.setIfInBounds i true) a w'→K' a w')→if Region.wanted oi (yielded ops a.tmps)=true then Oper.wp P oi a w K' Q else K' (a.put oi.dst undef) w
theorem oneR {i:Nat} {oi:Oper} {fuel:Nat} {listed:Array Bool} {a:Act} {w:World} (hi:ops[i]?=some oi) (hr:Region.ready md ops listed=[i])
  (h:StepR P md ops Q reads S fuel listed i oi a w):wpAnyR P md ops Q reads S (fuel+1) listed a w:=
 ⟨fun h0=>absurd (hr▸h0) (by simp),fun j hj=>by
  rw [hr]at hj
  obtain rfl:j=i:=by simpa using hj
  exact wpOp_step hi fun K' hK=>h K' fun a w' h1 h2=>hK a w' ⟨h1,h2⟩⟩
theorem or1 (i:Nat) (oi:Oper) {fuel:Nat} {listed:Array Bool} {a:Act} {w:World} (hi:ops[i]?=some oi) (h:StepR P md ops Q reads S fuel listed i oi a w) (hr:Region.ready md ops listed=[i]:=by kernel_rfl):wpAnyR P md ops Q reads S (fuel+1) listed a w:=oneR hi hr h
theorem twoR {i j:Nat} {oi oj:Oper} {fuel:Nat} {listed:Array Bool} {a:Act} {w:World} (hr:Region.ready md ops listed=[i,j]) (hi:ops[i]?=some oi) (hj:ops[j]?=some oj)
  (h1:StepR P md ops Q reads S fuel listed i oi a w) (h2:StepR P md ops Q reads S fuel listed j oj a w):wpAnyR P md ops Q reads S (fuel+1) listed a w:=
 ⟨fun h0=>absurd (hr▸h0) (by simp),fun k hk=>by
  rw [hr]at hk
  rcases List.mem_cons.1 hk with rfl|hk
  · exact wpOp_step hi fun K' hK=>h1 K' fun a w' h1 h2=>hK a w' ⟨h1,h2⟩
  ·
   obtain rfl:k=j:=by simpa using hk
   exact wpOp_step hj fun K' hK=>h2 K' fun a w' h1 h2=>hK a w' ⟨h1,h2⟩⟩
theorem stepF {i:Nat} {oi:Oper} {fuel:Nat} {listed:Array Bool} {a:Act} {w:World} (hl:late md ops reads i=false)
  (h:∀K':Act→World→Prop,Shut (∀a w',wpAnyR P md ops Q reads S fuel (listed.setIfInBounds i true) a w'→K' a w')→if Region.wanted oi (yielded ops a.tmps)=true then Oper.wp P oi a w K' Q else K' (a.put oi.dst undef) w):
  StepR P md ops Q reads S fuel listed i oi a w:=
 fun K' hK=>h K' fun a w' h2=>hK a w' (fun hh=>absurd (hl.symm.trans hh) (by simp)) h2
theorem stepS {i:Nat} {oi:Oper} {fuel:Nat} {listed:Array Bool} {a:Act} {w:World}
  (h:∀K':Act→World→Prop,Shut (∀a w',S w'→wpAnyR P md ops Q reads S fuel (listed.setIfInBounds i true) a w'→K' a w')→if Region.wanted oi (yielded ops a.tmps)=true then Oper.wp P oi a w K' Q else K' (a.put oi.dst undef) w):
  StepR P md ops Q reads S fuel listed i oi a w:=
 fun K' hK=>h K' fun a w' h1 h2=>hK a w' (fun _ _=>h1) h2
theorem _root_.Go.Shut.o {p:Prop} (h:Shut p):p:=h
theorem lq:(∀(t:Array Value) (l:List Deferred) (d:Tmp) (v:Value),Act.put ⟨t,l⟩ (some d) v=⟨t.setIfInBounds d v,l⟩)∧(∀(t:Array Value) (l:List Deferred) (v:Value),Act.put ⟨t,l⟩ none v=⟨t,l⟩)∧(∀ {α:Type} (l:List α) (i:Nat) (v:α),l.toArray.setIfInBounds i v=(l.set i v).toArray)∧(∀ {α:Type} (a b:α) (l:List α),(b::l).set 0 a=a::l)∧(∀ {α:Type} (a b:α) (l:List α) (n:Nat),(b::l).set (n+1) a=b::l.set n a):=⟨fun _ _ _ _=>rfl,fun _ _ _=>rfl,fun _ _ _=>List.setIfInBounds_toArray ..,fun _ _ _=>rfl,fun _ _ _ _=>rfl⟩
def gt:List Oper→Nat→Option Oper
  |a::_,0=>some a
  |_::l,n+1=>gt l n
  |[],_=>none
theorem gt_is:∀(l:List Oper) (i:Nat) {o:Oper},gt l i=some o→l[i]?=some o
  |[],_,_,h=>by cases h
  |_::_,0,_,h=>h
  |_::l,n+1,_,h=>gt_is l n h
theorem gt_of {i:Nat} {o:Oper} (h:gt ops.toList i=some o):ops[i]?=some o:=by
  have:=gt_is _ _ h
  rwa [Array.getElem?_toList]at this
theorem stp_q (i:Nat) {oi:Oper} {v:Value} {fuel:Nat} {listed l2:Array Bool} {a a2:Act} {w:World} (h:wpAnyR P md ops Q reads S fuel l2 a2 w) (hi:gt ops.toList i=some oi:=by rfl)
 (hy:∀w,(execOp a.eval oi).run P w=.ok (.value v) w:=by intro w;go_simp;(try with_reducible rfl)) (hl:listed.setIfInBounds i true=l2:=by(try simp only [Rg.lq]);rfl) (ha:a.put oi.dst v=a2:=by(try simp only [Rg.lq]);rfl)
 (hs:(Region.noSelect ops&&Region.free md ops listed i&&(Region.ready md ops listed).contains i&&closedB md ops listed)=true:=by kernel_rfl) (hQ:∀c a w,Q (.panic c) (a.put oi.dst v) w→Q (.panic c) a w:=by exact fun _ _ _ h=>h) (hw:Region.wanted oi (yielded ops a.tmps)=true:=by rfl):wpAnyR P md ops Q reads S (fuel+1) listed a w:=takeP (gt_of hi) hs hQ hw hy (hl▸ha▸h)
theorem stp_n (i:Nat) {oi:Oper} {fuel:Nat} {listed l2:Array Bool} {a a2:Act} {w:World} (h:wpAnyR P md ops Q reads S fuel l2 a2 w) (hi:gt ops.toList i=some oi:=by rfl) (hl:listed.setIfInBounds i true=l2:=by(try simp only [Rg.lq]);rfl) (ha:a.put oi.dst undef=a2:=by(try simp only [Rg.lq]);rfl)
 (hs:(Region.noSelect ops&&Region.free md ops listed i&&(Region.ready md ops listed).contains i&&closedB md ops listed)=true:=by kernel_rfl) (hQ:∀c a w,Q (.panic c) (a.put oi.dst undef) w→Q (.panic c) a w:=by exact fun _ _ _ h=>h) (hw:Region.wanted oi (yielded ops a.tmps)=false:=by rfl):wpAnyR P md ops Q reads S (fuel+1) listed a w:=takeN (gt_of hi) hs hQ hw (hl▸ha▸h)
theorem stp_r (i:Nat) {oi:Oper} {v:Value} {fuel:Nat} {listed l2:Array Bool} {a a2:Act} {w:World} (hS:S w) (h:wpAnyR P md ops Q reads S fuel l2 a2 w) (hi:gt ops.toList i=some oi:=by rfl)
 (hy:∀w,S w→(execOp a.eval oi).run P w=.ok (.value v) w:=by intro w hSw;(try dsimp only at hSw);(try go_split_ands);go_simp;(try with_reducible rfl)) (hl:listed.setIfInBounds i true=l2:=by(try simp only [Rg.lq]);rfl) (ha:a.put oi.dst v=a2:=by(try simp only [Rg.lq]);rfl)
 (hs:(Region.noSelect ops&&Region.free md ops listed i&&(Region.ready md ops listed).contains i&&closedB md ops listed&&reads.contains i)=true:=by kernel_rfl) (hQ:∀c a w,Q (.panic c) (a.put oi.dst v) w→Q (.panic c) a w:=by exact fun _ _ _ h=>h) (hw:Region.wanted oi (yielded ops a.tmps)=true:=by rfl):wpAnyR P md ops Q reads S (fuel+1) listed a w:=takeS (gt_of hi) hs hQ hw hS hy (hl▸ha▸h)
theorem stp_s (i:Nat) (v:Value) {oi:Oper} {fuel:Nat} {listed l2:Array Bool} {a a2:Act} {w:World} (hS:S w) (hi:gt ops.toList i=some oi:=by rfl) (hy:∀w,S w→(execOp a.eval oi).run P w=.ok (.value v) w) (h:wpAnyR P md ops Q reads S fuel l2 a2 w)
 (hl:listed.setIfInBounds i true=l2:=by(try simp only [Rg.lq]);rfl) (ha:a.put oi.dst v=a2:=by(try simp only [Rg.lq]);rfl)
 (hs:(Region.noSelect ops&&Region.free md ops listed i&&(Region.ready md ops listed).contains i&&closedB md ops listed&&reads.contains i)=true:=by kernel_rfl) (hQ:∀c a w,Q (.panic c) (a.put oi.dst v) w→Q (.panic c) a w:=by exact fun _ _ _ h=>h) (hw:Region.wanted oi (yielded ops a.tmps)=true:=by rfl):wpAnyR P md ops Q reads S (fuel+1) listed a w:=takeS (gt_of hi) hs hQ hw hS hy (hl▸ha▸h)
theorem stp_o (i:Nat) {oi:Oper} {fuel:Nat} {listed l2:Array Bool} {a a2:Act} {w:World} (h:StepR P md ops Q reads S fuel l2 i oi a2 w) (hi:gt ops.toList i=some oi:=by rfl) (hl:listed=l2:=by(try simp only [Rg.lq]);rfl) (ha:a=a2:=by(try simp only [Rg.lq]);rfl) (hr:Region.ready md ops listed=[i]:=by kernel_rfl):wpAnyR P md ops Q reads S (fuel+1) listed a w:=by
  subst hl;subst ha
  exact oneR (gt_of hi) hr h
theorem stp_t2 (i j:Nat) {oi oj:Oper} {fuel:Nat} {listed:Array Bool} {a:Act} {w:World} (h1:StepR P md ops Q reads S fuel listed i oi a w) (h2:StepR P md ops Q reads S fuel listed j oj a w) (hi:gt ops.toList i=some oi:=by rfl) (hj:gt ops.toList j=some oj:=by rfl) (hr:Region.ready md ops listed=[i,j]:=by kernel_rfl):wpAnyR P md ops Q reads S (fuel+1) listed a w:=twoR hr (gt_of hi) (gt_of hj) h1 h2
theorem stp_t3 (i j l:Nat) {oi oj ol:Oper} {fuel:Nat} {listed:Array Bool} {a:Act} {w:World} (h1:StepR P md ops Q reads S fuel listed i oi a w) (h2:StepR P md ops Q reads S fuel listed j oj a w) (h3:StepR P md ops Q reads S fuel listed l ol a w) (hi:gt ops.toList i=some oi:=by rfl) (hj:gt ops.toList j=some oj:=by rfl) (hl:gt ops.toList l=some ol:=by rfl) (hr:Region.ready md ops listed=[i,j,l]:=by kernel_rfl):wpAnyR P md ops Q reads S (fuel+1) listed a w:=
  ⟨fun h0=>absurd (hr▸h0) (by simp),fun k hk=>by
    rw [hr]at hk
    rcases List.mem_cons.1 hk with rfl|hk
    · exact wpOp_step (gt_of hi) fun K' hK=>h1 K' fun a w' h1 h2=>hK a w' ⟨h1,h2⟩
    · rcases List.mem_cons.1 hk with rfl|hk
      · exact wpOp_step (gt_of hj) fun K' hK=>h2 K' fun a w' h1 h2=>hK a w' ⟨h1,h2⟩
      · obtain rfl:k=l:=by simpa using hk
        exact wpOp_step (gt_of hl) fun K' hK=>h3 K' fun a w' h1 h2=>hK a w' ⟨h1,h2⟩⟩
theorem stp_qK (i:Nat) {oi:Oper} {v:Value} {fuel:Nat} {listed l2:Array Bool} {a a2:Act} {w:World} (h:wpAnyR P md ops Q reads S fuel l2 a2 w) (hs:(Region.noSelect ops&&Region.free md ops listed i&&(Region.ready md ops listed).contains i&&closedB md ops listed)=true:=by decide+kernel) (hi:gt ops.toList i=some oi:=by rfl)
 (hy:∀w,(execOp a.eval oi).run P w=.ok (.value v) w:=by intro w;go_simp;(try with_reducible rfl)) (hl:listed.setIfInBounds i true=l2:=by(try simp only [Rg.lq]);rfl) (ha:a.put oi.dst v=a2:=by(try simp only [Rg.lq]);rfl)
  (hQ:∀c a w,Q (.panic c) (a.put oi.dst v) w→Q (.panic c) a w:=by exact fun _ _ _ h=>h) (hw:Region.wanted oi (yielded ops a.tmps)=true:=by rfl):wpAnyR P md ops Q reads S (fuel+1) listed a w:=takeP (gt_of hi) hs hQ hw hy (hl▸ha▸h)
theorem stp_nK (i:Nat) {oi:Oper} {fuel:Nat} {listed l2:Array Bool} {a a2:Act} {w:World} (h:wpAnyR P md ops Q reads S fuel l2 a2 w) (hs:(Region.noSelect ops&&Region.free md ops listed i&&(Region.ready md ops listed).contains i&&closedB md ops listed)=true:=by decide+kernel) (hi:gt ops.toList i=some oi:=by rfl) (hl:listed.setIfInBounds i true=l2:=by(try simp only [Rg.lq]);rfl) (ha:a.put oi.dst undef=a2:=by(try simp only [Rg.lq]);rfl)
  (hQ:∀c a w,Q (.panic c) (a.put oi.dst undef) w→Q (.panic c) a w:=by exact fun _ _ _ h=>h) (hw:Region.wanted oi (yielded ops a.tmps)=false:=by rfl):wpAnyR P md ops Q reads S (fuel+1) listed a w:=takeN (gt_of hi) hs hQ hw (hl▸ha▸h)
theorem stp_rK (i:Nat) {oi:Oper} {v:Value} {fuel:Nat} {listed l2:Array Bool} {a a2:Act} {w:World} (hS:S w) (h:wpAnyR P md ops Q reads S fuel l2 a2 w) (hs:(Region.noSelect ops&&Region.free md ops listed i&&(Region.ready md ops listed).contains i&&closedB md ops listed&&reads.contains i)=true:=by decide+kernel) (hi:gt ops.toList i=some oi:=by rfl)
 (hy:∀w,S w→(execOp a.eval oi).run P w=.ok (.value v) w:=by intro w hSw;(try dsimp only at hSw);(try go_split_ands);go_simp;(try with_reducible rfl)) (hl:listed.setIfInBounds i true=l2:=by(try simp only [Rg.lq]);rfl) (ha:a.put oi.dst v=a2:=by(try simp only [Rg.lq]);rfl)
  (hQ:∀c a w,Q (.panic c) (a.put oi.dst v) w→Q (.panic c) a w:=by exact fun _ _ _ h=>h) (hw:Region.wanted oi (yielded ops a.tmps)=true:=by rfl):wpAnyR P md ops Q reads S (fuel+1) listed a w:=takeS (gt_of hi) hs hQ hw hS hy (hl▸ha▸h)
theorem stp_sK (i:Nat) (v:Value) {oi:Oper} {fuel:Nat} {listed l2:Array Bool} {a a2:Act} {w:World} (hS:S w) (hs:(Region.noSelect ops&&Region.free md ops listed i&&(Region.ready md ops listed).contains i&&closedB md ops listed&&reads.contains i)=true:=by decide+kernel) (hi:gt ops.toList i=some oi:=by rfl) (hy:∀w,S w→(execOp a.eval oi).run P w=.ok (.value v) w) (h:wpAnyR P md ops Q reads S fuel l2 a2 w)
 (hl:listed.setIfInBounds i true=l2:=by(try simp only [Rg.lq]);rfl) (ha:a.put oi.dst v=a2:=by(try simp only [Rg.lq]);rfl)
  (hQ:∀c a w,Q (.panic c) (a.put oi.dst v) w→Q (.panic c) a w:=by exact fun _ _ _ h=>h) (hw:Region.wanted oi (yielded ops a.tmps)=true:=by rfl):wpAnyR P md ops Q reads S (fuel+1) listed a w:=takeS (gt_of hi) hs hQ hw hS hy (hl▸ha▸h)
theorem stp_t2K (i j:Nat) {oi oj:Oper} {fuel:Nat} {listed:Array Bool} {a:Act} {w:World} (h1:StepR P md ops Q reads S fuel listed i oi a w) (h2:StepR P md ops Q reads S fuel listed j oj a w) (hr:Region.ready md ops listed=[i,j]:=by decide+kernel) (hi:gt ops.toList i=some oi:=by rfl) (hj:gt ops.toList j=some oj:=by rfl):wpAnyR P md ops Q reads S (fuel+1) listed a w:=twoR hr (gt_of hi) (gt_of hj) h1 h2
theorem stp_t3K (i j l:Nat) {oi oj ol:Oper} {fuel:Nat} {listed:Array Bool} {a:Act} {w:World} (h1:StepR P md ops Q reads S fuel listed i oi a w) (h2:StepR P md ops Q reads S fuel listed j oj a w) (h3:StepR P md ops Q reads S fuel listed l ol a w) (hr:Region.ready md ops listed=[i,j,l]:=by decide+kernel) (hi:gt ops.toList i=some oi:=by rfl) (hj:gt ops.toList j=some oj:=by rfl) (hl:gt ops.toList l=some ol:=by rfl):wpAnyR P md ops Q reads S (fuel+1) listed a w:=
  ⟨fun h0=>absurd (hr▸h0) (by simp),fun k hk=>by
    rw [hr]at hk
    rcases List.mem_cons.1 hk with rfl|hk
    · exact wpOp_step (gt_of hi) fun K' hK=>h1 K' fun a w' h1 h2=>hK a w' ⟨h1,h2⟩
    · rcases List.mem_cons.1 hk with rfl|hk
      · exact wpOp_step (gt_of hj) fun K' hK=>h2 K' fun a w' h1 h2=>hK a w' ⟨h1,h2⟩
      · obtain rfl:k=l:=by simpa using hk
        exact wpOp_step (gt_of hl) fun K' hK=>h3 K' fun a w' h1 h2=>hK a w' ⟨h1,h2⟩⟩
theorem stp_oK (i:Nat) {oi:Oper} {fuel:Nat} {listed:Array Bool} {a:Act} {w:World} (h:StepR P md ops Q reads S fuel listed i oi a w) (hr:Region.ready md ops listed=[i]:=by decide+kernel) (hi:gt ops.toList i=some oi:=by rfl):wpAnyR P md ops Q reads S (fuel+1) listed a w:=oneR (gt_of hi) hr h
theorem doneR {listed:Array Bool} {a:Act} {w:World} (hr:Region.ready md ops listed=[]) (h:Q .normal a w):∀fuel,wpAnyR P md ops Q reads S fuel listed a w
 |0=>⟨hr,h⟩
 |_+1=>⟨fun _=>h,by rw [hr];simp⟩
theorem beginR {id:Nat} {a:Act} {w:World} (reads:List Nat) (S:World→Prop) (hm:P.follows .mixedOrders=true)
  (h:wpAnyR P .any ops Q reads S ops.size (Array.replicate ops.size false) a w.drew):(Code.region id ops true).wp P Q a w:=
 wp_region_any hm (wpAny_of_R _ _ _ _ h)
end
end Rg
namespace Mem
open Go.RowKit
section
variable {P : Program}
def isRow (P:Program) (ty:TypeId) (cs:Array Value):Prop:=(match P.underlying ty with|some (.struct _)|some (.array _ _)=>true|_=>false)=true∧(P.info? ty).map (·.size)=some cs.size
theorem load_cell {w:World} {ty:TypeId} {g:Nat} {t:TypeId} {cs:Array Value} (hg:Blk w g t cs) (hr:isRow P ty cs):(loadVar ty ⟨g,0,none⟩).run P w=.ok (.agg cs) w:=by
 obtain⟨h1,h2⟩:=hr
 cases hu:P.underlying ty with
 |none=>rw [hu]at h1;cases h1
 |some d=>exact run_loadVar_row w g t ty cs (0,0) d hg hu (by rw [hu]at h1;cases d<;>first|rfl|cases h1) h2
theorem results_cell_tmp {fn:Func} {p u:Tmp} {ty:TypeId} (h:fn.results=#[.cell p ty,.tmp u]) (tmps:Array Value) (w:World) {g:Nat} {t:TypeId} {cs:Array Value}
  (hp:tmps.getD p undef=.pointer (some ⟨g,0,none⟩)) (hg:Blk w g t cs) (hr:isRow P ty cs):
  (results fn tmps).run P w=.ok (.tuple #[.agg cs,tmps.getD u undef]) w:=by
 have hp':tmps[p]?.getD undef=.pointer (some ⟨g,0,none⟩):=by simpa using hp
 simp [results,h,hp',asAddr,load_cell hg hr]
theorem results_cell_tmp2 {fn:Func} {p u v:Tmp} {ty:TypeId} (h:fn.results=#[.cell p ty,.tmp u,.tmp v]) (tmps:Array Value) (w:World) {g:Nat} {t:TypeId} {cs:Array Value}
  (hp:tmps.getD p undef=.pointer (some ⟨g,0,none⟩)) (hg:Blk w g t cs) (hr:isRow P ty cs):
  (results fn tmps).run P w=.ok (.tuple #[.agg cs,tmps.getD u undef,tmps.getD v undef]) w:=by
 have hp':tmps[p]?.getD undef=.pointer (some ⟨g,0,none⟩):=by simpa using hp
 simp [results,h,hp',asAddr,load_cell hg hr]
theorem results_cell_cell {fn:Func} {p q:Tmp} {ty ty':TypeId} (h:fn.results=#[.cell p ty,.cell q ty']) (tmps:Array Value) (w:World) {g g':Nat} {t t':TypeId} {cs cs':Array Value}
  (hp:tmps.getD p undef=.pointer (some ⟨g,0,none⟩)) (hg:Blk w g t cs) (hr:isRow P ty cs) (hp':tmps.getD q undef=.pointer (some ⟨g',0,none⟩)) (hg':Blk w g' t' cs') (hr':isRow P ty' cs'):
  (results fn tmps).run P w=.ok (.tuple #[.agg cs,.agg cs']) w:=by
 have h1:tmps[p]?.getD undef=.pointer (some ⟨g,0,none⟩):=by simpa using hp
 have h2:tmps[q]?.getD undef=.pointer (some ⟨g',0,none⟩):=by simpa using hp'
 simp [results,h,h1,h2,asAddr,load_cell hg hr,load_cell hg' hr']
theorem ret_row2 {fn:Func} {R:Ending→World→Prop} {a:Act} {w:World} {p u:Tmp} {ty:TypeId} (h:fn.results=#[.cell p ty,.tmp u]) {g:Nat} {t:TypeId} {cs:Array Value} {x:Value}
  (hp:a.tmps.getD p undef=.pointer (some ⟨g,0,none⟩)) (hx:a.tmps.getD u undef=x) (hg:Blk w g t cs) (hr:isRow P ty cs) (hdf:a.defers=[]) (hR:R (.returned (.tuple #[.agg cs,x])) w):bodyPost P fn R .ret a w:=
 bodyPost_ret (results_cell_tmp h a.tmps w hp hg hr) hdf (by rw [hx];exact hR)
theorem ret_row3 {fn:Func} {R:Ending→World→Prop} {a:Act} {w:World} {p u v:Tmp} {ty:TypeId} (h:fn.results=#[.cell p ty,.tmp u,.tmp v]) {g:Nat} {t:TypeId} {cs:Array Value} {x y:Value}
  (hp:a.tmps.getD p undef=.pointer (some ⟨g,0,none⟩)) (hx:a.tmps.getD u undef=x) (hy:a.tmps.getD v undef=y) (hg:Blk w g t cs) (hr:isRow P ty cs) (hdf:a.defers=[]) (hR:R (.returned (.tuple #[.agg cs,x,y])) w):bodyPost P fn R .ret a w:=
 bodyPost_ret (results_cell_tmp2 h a.tmps w hp hg hr) hdf (by rw [hx,hy];exact hR)
theorem ret_rows2 {fn:Func} {R:Ending→World→Prop} {a:Act} {w:World} {p q:Tmp} {ty ty':TypeId} (h:fn.results=#[.cell p ty,.cell q ty']) {g g':Nat} {t t':TypeId} {cs cs':Array Value}
  (hp:a.tmps.getD p undef=.pointer (some ⟨g,0,none⟩)) (hp':a.tmps.getD q undef=.pointer (some ⟨g',0,none⟩)) (hg:Blk w g t cs) (hr:isRow P ty cs) (hg':Blk w g' t' cs') (hr':isRow P ty' cs') (hdf:a.defers=[]) (hR:R (.returned (.tuple #[.agg cs,.agg cs'])) w):bodyPost P fn R .ret a w:=
 bodyPost_ret (results_cell_cell h a.tmps w hp hg hr hp' hg' hr') hdf hR
end
end Mem
namespace Nd
open Go.RowKit Mem Rws
def axK (k j:Nat):Value:=if j/7<k then state0 (j%7)else if j%7=5 then .bool false else .int .i64 0
def nodeU (id t0 t1 t2 t3:Int) (i:Nat):Value:=
 if i=0 then .int .i64 id else if i=2 then .int .i64 t0 else if i=3 then .int .i64 t1 else if i=4 then .int .i64 t2 else if i=5 then .int .i64 t3
 else if i=72 then .bool false else if i=73 then .slice none 0 0 else .int .i64 0
def nodeK (id t0 t1 t2 t3:Int) (k i:Nat):Value:=
 if 6≤i∧i<27 then axK k (i-6)else if 27≤i∧i<39 then roll0 (i-27)else nodeU id t0 t1 t2 t3 i
def node0 (i:Nat):Value:=if i=11∨i=18∨i=25∨i=27∨i=28∨i=29∨i=30∨i=72 then .bool false else if i=73 then .slice none 0 0 else .int .i64 0
theorem begin_any (w:World):Calls Tryz.prog 27 #[.int .i64 0] w fun e w'=>e=.returned (.agg (row 7 state0))∧Below w.heap.size w w':=by
 go_enter Tryz.func27,Tryz.ntmps27
 go_wp2
 refine bodyPost_ret (v:=.agg (row 7 state0)) (by simp [results,Tryz.results27,go_sem];rfl) rfl ⟨rfl,?_⟩
 exact(Below.refl _ _).alloc (Nat.le_refl _) _
set_option maxRecDepth 100000 in
theorem zero_node:Tryz.zeroCells39=row 74 node0:=by kernel_rfl
set_option maxRecDepth 100000 in
theorem built_node (id t0 t1 t2 t3:Int):Array.foldl (fun cs x=>cs.setIfInBounds (27+x.snd) x.fst)
        (((((Tryz.zeroCells39.setIfInBounds 0 (Value.int IntKind.i64 id)).setIfInBounds 2
               (Value.int IntKind.i64 t0)).setIfInBounds
             3 (Value.int IntKind.i64 t1)).setIfInBounds
           4 (Value.int IntKind.i64 t2)).setIfInBounds
         5 (Value.int IntKind.i64 t3))
        (row 12 roll0).zipIdx 0 12=row 74 (nodeK id t0 t1 t2 t3 0):=by kernel_rfl
theorem state0_one (i:Nat):(state0 i).oneCell'=true:=by unfold state0;(repeat' split)<;>rfl
theorem roll0_one (i:Nat):(roll0 i).oneCell'=true:=by unfold roll0;split<;>rfl
theorem axK_one (k i:Nat):(axK k i).oneCell'=true:=by
 unfold axK
 split
 · exact state0_one _
 · split<;>rfl
theorem nodeU_one (id t0 t1 t2 t3:Int) (i:Nat):(nodeU id t0 t1 t2 t3 i).oneCell'=true:=by unfold nodeU;(repeat' split)<;>rfl
theorem nodeK_one (id t0 t1 t2 t3:Int) (k i:Nat):(nodeK id t0 t1 t2 t3 k i).oneCell'=true:=by
 unfold nodeK
 split
 · exact axK_one _ _
 ·
  split
  · exact roll0_one _
  · exact nodeU_one _ _ _ _ _ _
theorem nodeK_succ (id t0 t1 t2 t3:Int) (k:Nat) (hk:k<3) (i:Nat):over (6+k*7) 7 state0 (nodeK id t0 t1 t2 t3 k) i=nodeK id t0 t1 t2 t3 (k+1) i:=by
 by_cases h:6+k*7≤i∧i<6+k*7+7
 ·
  rw [over_in h.1 h.2]
  unfold nodeK axK
  rw [if_pos (by omega),if_pos (by omega)]
  congr 1
  omega
 ·
  rw [over_out (by omega)]
  unfold nodeK
  by_cases h6:6≤i∧i<27
  ·
   rw [if_pos h6,if_pos h6]
   unfold axK
   by_cases h7:(i-6)/7<k
   · rw [if_pos h7,if_pos (by omega)]
   · rw [if_neg h7,if_neg (show ¬(i-6)/7<k+1 by omega)]
  · rw [if_neg h6,if_neg h6]
end Nd
namespace Nd
open Go.RowKit Mem Rws Flat
def boolsV (bs:List Bool):List Value:=bs.map Value.bool
theorem boolsV_at (bs:List Bool) (k:Nat) (hk:k<bs.length):(boolsV bs)[k]?=some (.bool bs[k]):=by simp [boolsV,hk]
theorem boolsV_one (bs:List Bool):∀u∈boolsV bs,u.oneCell'=true:=fun u hu=>by
 obtain⟨z,_,rfl⟩:=List.mem_map.1 hu
 rfl
def verC (v:Int) (s:Bool) (A:Option Addr) (n c:Nat):Array Value:=#[.int .i64 v,.bool s,.slice A n c]
def nodeT (i:Nat):Bool:= !(i==11||i==18||i==25||i==27||i==28||i==29||i==30||i==72)
def okT (b:Bool) (v:Value):Prop:=match b with|true=>∃n,v=Value.int .i64 n|false=>∃c,v=Value.bool c
def nodeW (f:Nat→Value) (S:Value) (i:Nat):Value:=if i=73 then S else f i
section
variable {P : Program} {ops : Array Oper} {rest : List Oper} {o : Oper} {a : Act} {w : World} {Q : Exit → Act → World → Prop}
theorem wpList_part (hw:Region.wanted o (yielded ops a.tmps)=true) (ty:TypeId) (x:Operand) (ho:o.op=.load ty x)
  (b off m:Nat) (hx:a.eval x=.pointer (some ⟨b,off,none⟩)) {t:TypeId} {f:Nat→Value} {S:Value} (hb:Blk w b t (row 74 (nodeW f S))) (hm:off+m≤73) (d:TypeDesc)
  (hu:P.underlying ty=some d) (hd:d.isRow=true) (hi:(P.info? ty).map (·.size)=some m)
  (h:wpList P ops Q rest (a.put o.dst (.agg (row m fun j=>f (off+j)))) w):wpList P ops Q (o::rest) a w:=by
 refine wpList_mid hw ty x ho b off m hx hb (by omega) d hu hd hi ?_
 rw [row_congr (f:=fun j=>nodeW f S (off+j)) (g:=fun j=>f (off+j)) (fun i hi=>by unfold nodeW;rw [if_neg (by omega)])]
 exact h
end
end Nd
end Go.Proofs.YtljpoibnkkcjdaaGreatDoor
