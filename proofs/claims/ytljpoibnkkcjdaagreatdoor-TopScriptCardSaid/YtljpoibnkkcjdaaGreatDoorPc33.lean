import Derived.Great.Ranges
import Derived.Test.YtljpoibnkkcjdaaGreatDoorPc32
set_option linter.unusedVariables false
set_option linter.unusedSimpArgs false
namespace Go.Proofs.YtljpoibnkkcjdaaGreatDoor
namespace Pl
open Go.Lib Sm Tx
def joinW {α:Type} (c:α):List (List α)→List α
 |[]=>[]
 |[p]=>p
 |p::q::r=>p++c::joinW c (q::r)
theorem joinW_map {α β:Type} (f:α→β) (c:α):∀ps:List (List α),(joinW c ps).map f=joinW (f c) (ps.map (·.map f))
 |[]=>rfl
 |[p]=>rfl
 |p::q::r=>by
  show(p++c::joinW c (q::r)).map f=p.map f++f c::joinW (f c) ((q::r).map (·.map f))
  rw [List.map_append,List.map_cons,joinW_map f c (q::r)]
theorem index_at (c:UInt8):∀(a b:List UInt8),c ∉ a→index (a++c::b) [c]=(a.length:Int)
 |[],b,_=>by rw [List.nil_append,index];simp [List.isPrefixOf]
 |x::a,b,h=>by
  have hx:x≠c:=fun e=>h (by rw [e];exact List.mem_cons_self)
  have hp:([c]:List UInt8).isPrefixOf (x::(a++c::b))=false:=by simp [List.isPrefixOf,Ne.symm hx]
  have ih:=index_at c a b (fun e=>h (List.mem_cons_of_mem _ e))
  have hix:index (x::(a++c::b)) [c]=if index (a++c::b) [c]== -1 then-1 else index (a++c::b) [c]+1:=by rw [index,hp];simp
  rw [List.cons_append,hix,ih,if_neg (fun e=>by have:=beq_iff_eq.1 e;omega),List.length_cons]
  omega
theorem count_join (c:UInt8):∀ps:List (List UInt8),(∀p∈ps,c ∉ p)→(joinW c ps).count c=ps.length-1
 |[],_=>rfl
 |[p],h=>List.count_eq_zero.2 (h p List.mem_cons_self)
 |p::q::r,h=>by
  show(p++c::joinW c (q::r)).count c=_
  rw [List.count_append,List.count_eq_zero.2 (h p List.mem_cons_self),List.count_cons_self,count_join c (q::r) (fun x hx=>h x (List.mem_cons_of_mem _ hx))]
  simp
theorem splitK_join (c:UInt8):∀ps:List (List UInt8),(∀p∈ps,c ∉ p)→ps≠[]→splitK [c] 0 (ps.length-1) (joinW c ps)=ps
 |[],_,h=>absurd rfl h
 |[p],_,_=>rfl
 |p::q::r,h,_=>by
  have ih:=splitK_join c (q::r) (fun x hx=>h x (List.mem_cons_of_mem _ hx)) (by simp)
  have hi:=index_at c p (joinW c (q::r)) (h p List.mem_cons_self)
  show splitK [c] 0 (r.length+1) (p++c::joinW c (q::r))=_
  unfold splitK
  rw [if_neg (fun e=>by have:=beq_iff_eq.1 e;omega),hi]
  have e1:((p.length:Int)).toNat+0=p.length:=by omega
  have e2:((p.length:Int)).toNat+([c]:List UInt8).length=p.length+1:=by simp
  rw [e1,e2,List.take_left,←List.drop_drop,List.drop_left]
  exact congrArg (p:: ·) ih
theorem ofNat_inj {a b:Nat} (ha:a<256) (hb:b<256) (h:UInt8.ofNat a=UInt8.ofNat b):a=b:=by
 have:=congrArg UInt8.toNat h
 rw [UInt8.toNat_ofNat',UInt8.toNat_ofNat']at this
 omega
theorem not_mem_up {c:Nat} {p:List Nat} (hc:c<256) (hp:∀x∈p,x<256) (h:c ∉ p):UInt8.ofNat c ∉ p.map (fun x=>UInt8.ofNat x):=fun hm=>by
 obtain⟨x,hx,e⟩:=List.mem_map.1 hm
 exact h (ofNat_inj (hp x hx) hc e▸hx)
theorem split_join (c:Nat) (hc:c<256) (ps:List (List Nat)) (hne:ps≠[]) (hb:∀p∈ps,∀x∈p,x<256) (hp:∀p∈ps,c ∉ p):
  countB (strB (joinW c ps)) (strB [c])+1=ps.length∧splitB (strB [c]) 0 (countB (strB (joinW c ps)) (strB [c])) (strB (joinW c ps))=ps.map strB:=by
 have hU:∀p∈ps.map (·.map fun x=>UInt8.ofNat x),UInt8.ofNat c ∉ p:=fun p h=>by
  obtain⟨q,hq,rfl⟩:=List.mem_map.1 h
  exact not_mem_up hc (hb q hq) (hp q hq)
 have hd:(strB (joinW c ps)).data.toList=joinW (UInt8.ofNat c) (ps.map (·.map fun x=>UInt8.ofNat x)):=by rw [strB_data,joinW_map]
 have hs:(strB [c]).data.toList=[UInt8.ofNat c]:=by rw [strB_data];rfl
 have hn:0<ps.length:=by cases ps with
  |nil=>exact absurd rfl hne
  |cons _ _=>simp
 have hcount:countB (strB (joinW c ps)) (strB [c])=ps.length-1:=by
  show Lib.count (strB (joinW c ps)).data.toList (strB [c]).data.toList=_
  rw [hd,hs,count_one,count_join _ _ hU,List.length_map]
 refine⟨by omega,?_⟩
 have h1:=splitB_data (strB [c]) 0 (countB (strB (joinW c ps)) (strB [c])) (strB (joinW c ps))
 rw [hd,hs,hcount]at h1
 have h2:=splitK_join (UInt8.ofNat c) (ps.map (·.map fun x=>UInt8.ofNat x)) hU (by simpa using hne)
 rw [List.length_map]at h2
 rw [h2]at h1
 rw [hcount]
 have h3:∀(l:List ByteArray) (m:List (List Nat)),l.map (·.data.toList)=m.map (·.map fun x=>UInt8.ofNat x)→l=m.map strB:=by
  intro l
  induction l with
  |nil=>intro m h;cases m with
   |nil=>rfl
   |cons _ _=>simp at h
  |cons a l ih=>intro m h;cases m with
   |nil=>simp at h
   |cons b m=>
    rw [List.map_cons,List.map_cons]at h
    injection h with h1 h2
    rw [List.map_cons,←ih m h2,strB_eq h1]
 exact h3 _ _ h1
end Pl
namespace Dr
open Go.RowKit Mem Rws Sm Nd Cl Cf ReadLaw Pl Tx TextLaw
theorem split_any (c:Nat) (hc:c<256) (ps:List (List Nat)) (hne:ps≠[]) (hb:∀p∈ps,∀x∈p,x<256) (hp:∀p∈ps,c ∉ p) (hl:(joinW c ps).length<4294967281) (m:Int) (w:World) (hm: w.cell? ⟨0,0,none⟩=some (.int .i64 m)):
  Calls Tryz.prog 21 #[.string (strB (joinW c ps)),.string (strB [c])] w fun e w'=>e=.returned (.slice (some ⟨w.heap.size,0,none⟩) ps.length ps.length)∧w'=w.alloc (.cells (strsV ps).toArray 9):=by
 obtain⟨h1,h2⟩:=split_join c hc ps hne hb hp
 refine(Ls.strings_Split (strB (joinW c ps)) (strB [c]) m w (by rw [strB_size];exact hl) hm (by rw [strB_size];exact Nat.le_refl _)).mono ?_
 rintro e w' ⟨h3,h4⟩
 refine⟨by rw [h3,h1],?_⟩
 rw [h4,h2,List.map_map]
 rfl
theorem rd_split (w:World) (ps:List (List Nat)):Rd (w.alloc (.cells (strsV ps).toArray 9)) (w.heap.size+1) 1 (some ⟨w.heap.size,0,none⟩) ps.length (strsV ps):=
 ⟨by rw [strsV_len,Nat.mul_one],fun _=>⟨w.heap.size,0,rfl,by omega,fun j u hu=>by
  rw [Nat.zero_add]
  have h:=(Blk.fresh w 9 (strsV ps).toArray).cell j
  rw [h]
  simpa using hu⟩⟩
end Dr
namespace Dr
open Go.RowKit Mem Rws Sm Nd Cl Cf ReadLaw Tx TextLaw
def iv:Value→Int
 | .int _ z=>z
 |_=>0
def bo:Value→Bool
 | .bool b=>b
 |_=>false
def lnG (nd fr:Nat) (g:Nat→Value):List Nat:=lineOf nd fr (fun k=>iv (g (67+k))) (fun k=>iv (g (6+7*k))) (iv (g 70)%4294967296).toNat (bo (g 72)) (fun k=>bo (g (27+k)))
theorem decC_byte (n:Nat):∀x∈decC n,x<256:=fun x hx=>by
 unfold decC at hx
 obtain⟨y,hy,rfl⟩:=List.mem_map.1 hx
 have:=dec_small n y hy
 omega
theorem axs_len (u p:Nat→Int) (hu:∀k,k<3→ -9223372036854775808≤u k∧u k≤9223372036854775807) (hp:∀k,k<3→ -9223372036854775808≤p k∧p k≤9223372036854775807):∀n,n≤3→(axs u p n).length≤90*n
 |0,_=>Nat.le_refl _
 |n+1,hn=>by
  have h1:=axs_len u p hu hp n (by omega)
  have h2:=text_len (u n) (hu n (by omega))
  have h3:=text_len (p n) (hp n (by omega))
  show(axs u p n++axT (u n) (p n)).length≤_
  unfold axT
  simp only [List.length_append,List.length_cons,List.length_nil]
  omega
theorem outs_len (i:Nat→Bool):∀n,n≤4→(outs i n).length≤6*n
 |0,_=>Nat.le_refl _
 |n+1,hn=>by
  have h1:=outs_len i n (by omega)
  have h2:=decC_len n (by omega)
  show(outs i n++_).length≤_
  split
  · simp only [List.length_append,List.length_nil];omega
  · simp only [List.length_append,List.length_cons,List.length_nil];omega
theorem line_len (nd fr:Nat) (hnd:nd<100) (hfr:fr<100) (u p:Nat→Int) (hu:∀k,k<3→ -9223372036854775808≤u k∧u k≤9223372036854775807) (hp:∀k,k<3→ -9223372036854775808≤p k∧p k≤9223372036854775807) (dg:Nat) (hd:dg<4294967296) (st:Bool) (i:Nat→Bool):(lineOf nd fr u p dg st i).length≤400:=by
 have h1:=axs_len u p hu hp 3 (by omega)
 have h2:=outs_len i 4 (by omega)
 have h3:=decC_len nd hnd
 have h4:=decC_len fr hfr
 have h5:=hex_len 7 dg hd
 unfold lineOf bodyL headT
 cases st<;>simp only [List.length_append,List.length_cons,List.length_nil,if_true,if_false,Bool.false_eq_true]<;>omega
theorem axs_byte (u p:Nat→Int):∀n,∀x∈axs u p n,x<256
 |0=>fun x hx=>by cases hx
 |n+1=>fun x hx=>by
  rcases List.mem_append.1 (show x∈axs u p n++axT (u n) (p n)from hx)with h|h
  · exact axs_byte u p n x h
  ·
   unfold axT at h
   simp only [List.mem_append,List.mem_cons,List.mem_nil_iff,or_false]at h
   rcases h with((h|h)|h)|h
   · omega
   · have:=text_plain _ x h;omega
   · omega
   · have:=text_plain _ x h;omega
theorem outs_byte (i:Nat→Bool):∀n,∀x∈outs i n,x<256
 |0=>fun x hx=>by cases hx
 |n+1=>fun x hx=>by
  rcases List.mem_append.1 (show x∈outs i n++(if i n then []else [32,111,117,116]++decC n)from hx)with h|h
  · exact outs_byte i n x h
  ·
   split at h
   · cases h
   ·
    rcases List.mem_append.1 h with h|h
    · simp only [List.mem_cons,List.mem_nil_iff,or_false]at h;omega
    · exact decC_byte n x h
theorem line_byte (nd fr:Nat) (u p:Nat→Int) (dg:Nat) (st:Bool) (i:Nat→Bool):∀x∈lineOf nd fr u p dg st i,x<256:=fun x hx=>by
 unfold lineOf bodyL headT at hx
 simp only [List.mem_append,List.mem_cons,List.mem_nil_iff,or_false]at hx
 rcases hx with(((((((h|h)|h)|h)|h)|(h|h))|h)|h)|h
 · omega
 · exact decC_byte _ x h
 · omega
 · exact decC_byte _ x h
 · exact axs_byte u p 3 x h
 · omega
 · have:=hex_dig dg x h;omega
 ·
  split at h
  · cases h
  · simp only [List.mem_cons,List.mem_nil_iff,or_false]at h;omega
 · exact outs_byte i 4 x h
 · omega
theorem wf_rng {z:Int} (h:Wf z): -9223372036854775808≤z∧z≤9223372036854775807:=by
 unfold Wf at h
 simp [Lit.wf,IntKind.min,IntKind.max,IntKind.signed,IntKind.bits]at h
 omega
theorem repLn_of {g:Nat→Value} (hg:∀i,i<73→okT (nodeT i) (g i)) (hw:WfF g) (nd fr:Nat) (hnd:nd<100) (hfr:fr<100) (h0:g 0=.int .i64 (nd:Int)) (h1:g 1=.int .i64 (fr:Int)):RepLn (row 14 (repF g)) (lnG nd fr g):=by
 obtain⟨a,b,u0,u1,u2,x0,x1,x2,d,s,i0,i1,i2,i3,e0,e1,e2,e3,e4,e5,e6,e7,e8,e9,e10,e11,e12,e13⟩:=rep_cells hg
 have hr:∀i z,i<73→g i=.int .i64 z→ -9223372036854775808≤z∧z≤9223372036854775807:=fun i z hi e=>wf_rng (hw i z hi e)
 have hu:∀k,k<3→ -9223372036854775808≤iv (g (67+k))∧iv (g (67+k))≤9223372036854775807:=fun k hk=>by
  rcases(show k=0∨k=1∨k=2 by omega)with rfl|rfl|rfl
  · rw [show 67+0=67 from rfl,e2];exact hr 67 u0 (by omega) e2
  · rw [show 67+1=68 from rfl,e3];exact hr 68 u1 (by omega) e3
  · rw [show 67+2=69 from rfl,e4];exact hr 69 u2 (by omega) e4
 have hp:∀k,k<3→ -9223372036854775808≤iv (g (6+7*k))∧iv (g (6+7*k))≤9223372036854775807:=fun k hk=>by
  rcases(show k=0∨k=1∨k=2 by omega)with rfl|rfl|rfl
  · rw [show 6+7*0=6 from rfl,e5];exact hr 6 x0 (by omega) e5
  · rw [show 6+7*1=13 from rfl,e6];exact hr 13 x1 (by omega) e6
  · rw [show 6+7*2=20 from rfl,e7];exact hr 20 x2 (by omega) e7
 refine⟨nd,fr,_,_,iv (g 70),bo (g 72),_,hnd,hfr,hu,hp,?_,rfl,line_len nd fr hnd hfr _ _ hu hp _ (by omega) _ _,line_byte _ _ _ _ _ _ _,fun e=>by have:=congrArg List.length e;unfold lnG lineOf at this;simp at this⟩
 rw [repF_row]
 show #[g 0,g 1,g 67,g 68,g 69,g 6,g 13,g 20,g 70,g 72,g 27,g 28,g 29,g 30]=#[.int .i64 (nd:Int),.int .i64 (fr:Int),.int .i64 (iv (g 67)),.int .i64 (iv (g 68)),.int .i64 (iv (g 69)),.int .i64 (iv (g 6)),.int .i64 (iv (g 13)),.int .i64 (iv (g 20)),.int .i64 (iv (g 70)),.bool (bo (g 72)),.bool (bo (g 27)),.bool (bo (g 28)),.bool (bo (g 29)),.bool (bo (g 30))]
 rw [h0,h1,e2,e3,e4,e5,e6,e7,e8,e9,e10,e11,e12,e13]
 rfl
end Dr
namespace Dr
open Go.RowKit Mem Rws Sm Nd Cl Cf ReadLaw Pl Tx TextLaw
inductive Cmd where
 |tune (t0 t1 t2 t3:Int)
 |read (k:Nat) (r:Nat→Int)
 |frame
def wordsOf:Cmd→List (List Nat)
 | .tune t0 t1 t2 t3=>[[116,117,110,101],textOf t0,textOf t1,textOf t2,textOf t3]
 | .read k r=>[[114,101,97,100],[48+k],textOf (r 0),textOf (r 1),textOf (r 2)]
 | .frame=>[[102,114,97,109,101]]
structure SD where
 c:CluS
 rd:Nat→Int
 out:List Nat
 nf:Nat
noncomputable def lnC (s:SD) (k:Nat):List Nat:=lnG k s.nf (G6 s.c ⟨s.rd,-1,[]⟩ k)
noncomputable def stepC (s:SD):Cmd→SD
 | .tune t0 t1 t2 t3=>⟨beginS t0 t1 t2 t3,s.rd,s.out,0⟩
 | .read k r=>⟨s.c,rdK s.rd k r,s.out,s.nf⟩
 | .frame=>⟨next s.c ⟨s.rd,-1,[]⟩,s.rd,s.out++lnsK (lnC s) 4,s.nf+1⟩
def OkC (s:SD):Cmd→Prop
 | .tune t0 t1 t2 t3=>Wf t0∧Wf t1∧Wf t2∧Wf t3
 | .read k r=>k<4∧∀i,i<3→Wf (r i)
 | .frame=>Sane (next s.c ⟨s.rd,-1,[]⟩)∧∀k,k<4→RepLn (row 14 (repF (G6 s.c ⟨s.rd,-1,[]⟩ k))) (lnC s k)
theorem byt_text {a:Int} (h:Wf a):Byt (textOf a):=⟨fun x hx=>by have:=text_plain a x hx;omega,by have:=text_len a (wf_rng h);omega⟩
theorem rd_tx {a:Int} (h:Wf a):readOf (textOf a)=(a,0):=read_text a (wf_rng h)
theorem do_any (s:SD) (cmd:Cmd) (hok:OkC s cmd) (hout:s.out.length≤1000000) (g b o cc:Nat) (hc:(wordsOf cmd).length≤cc) (w:World) (h:Desk w g s.c s.rd s.out (.slice (some ⟨b,o,none⟩) (wordsOf cmd).length cc)) (hz:TzAt w) (h5:7<g)
  (hrd:Rd w w.heap.size 1 (some ⟨b,o,none⟩) (wordsOf cmd).length (strsV (wordsOf cmd))):
  Calls Tryz.prog 22 #[.pointer (some ⟨g,0,none⟩)] w fun e w'=>e=.returned (.bool true)∧(∃b2,Desk w' g (stepC s cmd).c (stepC s cmd).rd (stepC s cmd).out b2)∧Below g w w':=by
 cases cmd with
 |tune t0 t1 t2 t3=>
  obtain⟨h0,h1,h2,h3⟩:=hok
  refine do_tune (textOf t0) (textOf t1) (textOf t2) (textOf t3) (fun l hl=>?_) ?_ t0 t1 t2 t3 ?_ ⟨h0,h1,h2,h3⟩ g s.c s.rd s.out b o cc hc w h hrd
  ·
   simp only [List.mem_cons,List.mem_nil_iff,or_false]at hl
   rcases hl with rfl|rfl|rfl|rfl|rfl
   · exact⟨by simp,by simp⟩
   · exact byt_text h0
   · exact byt_text h1
   · exact byt_text h2
   · exact byt_text h3
  · simp [okN,okW,rd_tx h0,rd_tx h1,rd_tx h2,rd_tx h3]
  · simp [numW,rd_tx h0,rd_tx h1,rd_tx h2,rd_tx h3]
 |read k r=>
  obtain⟨hk,hr⟩:=hok
  have h0:=hr 0 (by omega)
  have h1:=hr 1 (by omega)
  have h2:=hr 2 (by omega)
  refine do_read [48+k] (textOf (r 0)) (textOf (r 1)) (textOf (r 2)) (fun l hl=>?_) k hk ?_ ?_ r ?_ hr g s.c s.rd s.out b o cc hc w h hrd
  ·
   simp only [List.mem_cons,List.mem_nil_iff,or_false]at hl
   rcases hl with rfl|rfl|rfl|rfl|rfl
   · exact⟨by simp,by simp⟩
   · exact⟨fun x hx=>by simp only [List.mem_cons,List.mem_nil_iff,or_false]at hx;omega,by simp⟩
   · exact byt_text h0
   · exact byt_text h1
   · exact byt_text h2
  · rw [smallOf_one (by omega) (by omega) (by omega),Nat.add_sub_cancel_left]
  · simp [okW,rd_tx h0,rd_tx h1,rd_tx h2]
  · simp [numW,rd_tx h0,rd_tx h1,rd_tx h2]
 |frame=>exact do_frame s.c s.rd hok.1 (lnC s) hok.2 g s.out hout b o cc w h hz h5 hrd
end Dr
namespace Dr
open Go.RowKit Mem Rws Sm Nd Cl Cf ReadLaw Pl Tx TextLaw
def lineC (c:Cmd):List Nat:=joinW 32 (wordsOf c)
def piecesC (cs:List Cmd):List (List Nat):=cs.map lineC++[[]]
def scriptC (cs:List Cmd):List Nat:=joinW 10 (piecesC cs)
def sd0:SD:=⟨beginS 4294967296 4294967296 4294967296 68719476736,fun _=>0,[],0⟩
noncomputable def runC (cs:List Cmd):Nat→SD
 |0=>sd0
 |j+1=>stepC (runC cs j) (cs.getD j .frame)
def txtC (cs:List Cmd):List Nat:=cs.flatMap fun c=>lineC c++[10]
theorem joinW_ends {α:Type} (c:α):∀ps:List (List α),joinW c (ps++[[]])=ps.flatMap fun p=>p++[c]
 |[]=>rfl
 |[p]=>by show p++c::[]=_;simp
 |p::q::r=>by
  show p++c::joinW c (q::r++[[]])=_
  rw [joinW_ends c (q::r)]
  simp only [List.flatMap_cons,List.append_assoc,List.cons_append,List.nil_append]
theorem script_txt (cs:List Cmd):scriptC cs=txtC cs:=by
 unfold scriptC piecesC txtC
 rw [joinW_ends,List.flatMap_map]
theorem txt_append (cs ds:List Cmd):txtC (cs++ds)=txtC cs++txtC ds:=by unfold txtC;rw [List.flatMap_append]
theorem runC_fold (cs:List Cmd):∀j,j≤cs.length→runC cs j=(cs.take j).foldl stepC sd0
 |0,_=>by rw [List.take_zero];rfl
 |j+1,hj=>by
  show stepC (runC cs j) (cs.getD j .frame)=_
  rw [runC_fold cs j (by omega),List.take_add_one,List.getElem?_eq_getElem (by omega),List.foldl_append,List.getD_eq_getElem?_getD,List.getElem?_eq_getElem (by omega)]
  rfl
def OkL:SD→List Cmd→Prop
 |_,[]=>True
 |s,c::cs=>OkC s c∧OkL (stepC s c) cs
theorem okL_at:∀(cs:List Cmd) (s:SD),OkL s cs→∀j,j<cs.length→OkC ((cs.take j).foldl stepC s) (cs.getD j .frame)
 |[],_,_,j,hj=>absurd hj (by simp)
 |c::cs,s,h,0,_=>h.1
 |c::cs,s,h,j+1,hj=>okL_at cs (stepC s c) h.2 j (by simpa using hj)
theorem okL_append:∀(cs:List Cmd) (s:SD) (ds:List Cmd),OkL s cs→OkL (cs.foldl stepC s) ds→OkL s (cs++ds)
 |[],_,_,_,h=>h
 |c::cs,s,ds,h,h2=>⟨h.1,okL_append cs (stepC s c) ds h.2 h2⟩
def cutR (r:Nat→Int) (i:Nat):Int:=if i<12 then r i else 0
def rdC (r:Nat→Int) (k:Nat):Cmd:=.read k (fun i=>r (k*3+i))
def rdsC (r:Nat→Int):Nat→List Cmd
 |0=>[]
 |k+1=>rdsC r k++[rdC r k]
def cmdX (r:Nat→Int):List Cmd:=rdsC r 4++[.frame]
def cmdN (t0 t1 t2 t3:Int) (R:Nat→Nat→Int):Nat→List Cmd
 |0=>[.tune t0 t1 t2 t3]
 |n+1=>cmdN t0 t1 t2 t3 R n++cmdX (R n)
theorem cmdN_len (t0 t1 t2 t3:Int) (R:Nat→Nat→Int):∀n,(cmdN t0 t1 t2 t3 R n).length=1+5*n
 |0=>rfl
 |n+1=>by
  show(cmdN t0 t1 t2 t3 R n++cmdX (R n)).length=_
  rw [List.length_append,cmdN_len t0 t1 t2 t3 R n]
  show 1+5*n+5=_
  omega
theorem rd4 (rd:Nat→Int) (h:∀i,12≤i→rd i=0) (r:Nat→Int):rdK (rdK (rdK (rdK rd 0 (fun i=>r (0*3+i))) 1 (fun i=>r (1*3+i))) 2 (fun i=>r (2*3+i))) 3 (fun i=>r (3*3+i))=cutR r:=by
 funext i
 unfold rdK cutR
 by_cases h3:3*3≤i∧i<3*3+3
 · rw [if_pos h3,if_pos (by omega)];exact congrArg r (by omega)
 rw [if_neg h3]
 by_cases h2:2*3≤i∧i<2*3+3
 · rw [if_pos h2,if_pos (by omega)];exact congrArg r (by omega)
 rw [if_neg h2]
 by_cases h1:1*3≤i∧i<1*3+3
 · rw [if_pos h1,if_pos (by omega)];exact congrArg r (by omega)
 rw [if_neg h1]
 by_cases h0:0*3≤i∧i<0*3+3
 · rw [if_pos h0,if_pos (by omega)];exact congrArg r (by omega)
 rw [if_neg h0,if_neg (by omega)]
 exact h i (by omega)
section
variable (t0 t1 t2 t3 : Int) (ys : List InS)
noncomputable def lnM (m:Nat):List Nat:=lnG (m%4) (m/4) (G6 (runS t0 t1 t2 t3 ys (m/4)) (ys.getD (m/4) default) (m%4))
noncomputable def outN (n:Nat):List Nat:=lnsK (lnM t0 t1 t2 t3 ys) (4*n)
theorem outN_succ (n:Nat):outN t0 t1 t2 t3 ys (n+1)=outN t0 t1 t2 t3 ys n++lnsK (fun k=>lnG k n (G6 (runS t0 t1 t2 t3 ys n) (ys.getD n default) k)) 4:=by
 have hk:∀k,k<4→lnM t0 t1 t2 t3 ys (4*n+k)=lnG k n (G6 (runS t0 t1 t2 t3 ys n) (ys.getD n default) k):=fun k hk=>by
  unfold lnM
  rw [show(4*n+k)%4=k by omega,show(4*n+k)/4=n by omega]
 have h0:=hk 0 (by omega)
 have h1:=hk 1 (by omega)
 have h2:=hk 2 (by omega)
 have h3:=hk 3 (by omega)
 unfold outN
 show(((lnsK _ (4*n)++lnM t0 t1 t2 t3 ys (4*n+0))++lnM t0 t1 t2 t3 ys (4*n+1))++lnM t0 t1 t2 t3 ys (4*n+2))++lnM t0 t1 t2 t3 ys (4*n+3)=_++(((([]++_)++_)++_)++_)
 rw [h0,h1,h2,h3]
 simp only [List.append_assoc,List.nil_append]
theorem lnsK_pre (ln:Nat→List Nat) (m:Nat):∀d,∃X,lnsK ln (m+d)=lnsK ln m++X
 |0=>⟨[],by simp⟩
 |d+1=>by
  obtain⟨X,hX⟩:=lnsK_pre ln m d
  exact⟨X++ln (m+d),by show lnsK ln (m+d)++ln (m+d)=_;rw [hX,List.append_assoc]⟩
def Tells (R:Nat→Nat→Int):Prop:=ys.length≤79∧(∀i,i<ys.length→ys.getD i default=⟨cutR (R i),-1,[]⟩)∧∀i,i<ys.length→∀j,j<12→Wf (R i j)
variable {t0 t1 t2 t3 ys}
theorem Tells.good {R:Nat→Nat→Int} (h:Tells ys R):GoodIns ys:=
 ⟨by have:=h.1;omega,fun i hi=>by
  rw [h.2.1 i hi]
  refine⟨by dsimp only;omega,fun j hj=>?_,by simp⟩
  show Wf (cutR (R i) j)
  unfold cutR
  rw [if_pos hj]
  exact h.2.2 i hi j hj⟩
theorem st_read (s:SD) (r:Nat→Int):(rdsC r 4).foldl stepC s=⟨s.c,rdK (rdK (rdK (rdK s.rd 0 (fun i=>r (0*3+i))) 1 (fun i=>r (1*3+i))) 2 (fun i=>r (2*3+i))) 3 (fun i=>r (3*3+i)),s.out,s.nf⟩:=rfl
theorem stN {R:Nat→Nat→Int} (h:Tells ys R):∀n,n≤ys.length→∃rd:Nat→Int,(∀i,12≤i→rd i=0)∧(cmdN t0 t1 t2 t3 R n).foldl stepC sd0=⟨runS t0 t1 t2 t3 ys n,rd,outN t0 t1 t2 t3 ys n,n⟩
 |0,_=>⟨fun _=>0,fun _ _=>rfl,rfl⟩
 |n+1,hn=>by
  obtain⟨rd,hr,e⟩:=stN h n (by omega)
  refine⟨cutR (R n),fun i hi=>by unfold cutR;rw [if_neg (by omega)],?_⟩
  show(cmdN t0 t1 t2 t3 R n++(rdsC (R n) 4++[Cmd.frame])).foldl stepC sd0=_
  rw [List.foldl_append,e,List.foldl_append,st_read,rd4 rd hr,outN_succ,runS_succ,h.2.1 n (by omega)]
  rfl
theorem fr_good {c:CluS} {x:InS} (hs:Sane c) (hrd:∀i,i<12→Wf (x.rd i)) (hs2:Sane (next c x)) {p:Nat} (hp:p<4) (hb:(p:Int)≠x.bad):(∀i,i<73→okT (nodeT i) (G6 c x p i))∧WfF (G6 c x p)∧G6 c x p 0=.int .i64 (p:Int)∧G6 c x p 1=.int .i64 c.fr:=by
 have e:(next c x).F p=G6 c x p:=by show F6 c x p=_;unfold F6;rw [newK_good hp hb]
 have h1:=(good6 (good5 (good4 (good3 (good2 (good1 hs hrd))))) p hp hb).2.1
 have h2:=hs2.ok p hp
 have h3:=hs2.wf p hp
 have h4:=hs2.id p hp
 have e2:F6 c x p=G6 c x p:=e
 rw [e]at h2 h3 h4
 rw [e2]at h1
 exact⟨h2,fun i z hi=>h3 i z hi,h4,h1⟩
theorem ok_frame {R:Nat→Nat→Int} (ht:Wf t0∧Wf t1∧Wf t2∧Wf t3) (h:Tells ys R) (n:Nat) (hn:n<ys.length) (k:Nat) (hk:k<4):RepLn (row 14 (repF (G6 (runS t0 t1 t2 t3 ys n) (ys.getD n default) k))) (lnG k n (G6 (runS t0 t1 t2 t3 ys n) (ys.getD n default) k)):=by
 have hs:=sane_run (ys:=ys) ht h.good n (by omega)
 have hs1:=sane_run (ys:=ys) ht h.good (n+1) (by omega)
 rw [runS_succ]at hs1
 have hb:((k:Nat):Int)≠(ys.getD n default).bad:=by rw [h.2.1 n hn];show(k:Int)≠ -1;omega
 obtain⟨h1,h2,h3,h4⟩:=fr_good hs (h.good.2 n hn).2.1 hs1 hk hb
 rw [runS_fr]at h4
 have:=h.1
 exact repLn_of h1 h2 k n (by omega) (by omega) h3 h4
theorem okN_all {R:Nat→Nat→Int} (ht:Wf t0∧Wf t1∧Wf t2∧Wf t3) (h:Tells ys R):∀n,n≤ys.length→OkL sd0 (cmdN t0 t1 t2 t3 R n)
 |0,_=>⟨ht,trivial⟩
 |n+1,hn=>by
  refine okL_append _ _ _ (okN_all ht h n (by omega)) ?_
  obtain⟨rd,hr,e⟩:=stN (t0:=t0) (t1:=t1) (t2:=t2) (t3:=t3) h n (by omega)
  rw [e]
  have hw:=h.2.2 n (by omega)
  have hrd:∀k,k<4→∀s,OkC s (rdC (R n) k):=fun k hk s=>⟨hk,fun i hi=>hw _ (by omega)⟩
  refine okL_append _ _ _ ⟨hrd 0 (by decide) _,hrd 1 (by decide) _,hrd 2 (by decide) _,hrd 3 (by decide) _,trivial⟩ ⟨?_,trivial⟩
  rw [st_read,rd4 rd hr]
  have hy:=h.2.1 n (by omega)
  have hs1:=sane_run (ys:=ys) ht h.good (n+1) (by omega)
  rw [runS_succ,hy]at hs1
  have hl:=ok_frame (t0:=t0) (t1:=t1) (t2:=t2) (t3:=t3) ht h n (by omega)
  rw [hy]at hl
  exact⟨hs1,hl⟩
end
end Dr
namespace Dr
open Go.RowKit Mem Rws Sm Nd Cl Cf ReadLaw Pl Tx TextLaw
def CmdK:Cmd→Prop
 | .tune t0 t1 t2 t3=>Wf t0∧Wf t1∧Wf t2∧Wf t3
 | .read k r=>k<4∧∀i,i<3→Wf (r i)
 | .frame=>True
theorem joinW_mem {α:Type} (c:α):∀(ps:List (List α)) (x:α),x∈joinW c ps→x=c∨∃p∈ps,x∈p
 |[],x,h=>absurd h (by simp [joinW])
 |[p],x,h=>.inr ⟨p,List.mem_cons_self,h⟩
 |p::q::r,x,h=>by
  rcases List.mem_append.1 (show x∈p++c::joinW c (q::r)from h)with h|h
  · exact .inr ⟨p,List.mem_cons_self,h⟩
  ·
   rcases List.mem_cons.1 h with h|h
   · exact .inl h
   ·
    rcases joinW_mem c (q::r) x h with h|⟨s,hs,h⟩
    · exact .inl h
    · exact .inr ⟨s,List.mem_cons_of_mem _ hs,h⟩
theorem text_byt (a:Int):∀x∈textOf a,45≤x∧x<128:=fun x hx=>by have:=text_plain a x hx;omega
theorem words_plain (c:Cmd) (h:CmdK c):∀p∈wordsOf c,∀x∈p,45≤x∧x<128:=by
 intro p hp
 cases c with
 |tune t0 t1 t2 t3=>
  simp only [wordsOf,List.mem_cons,List.mem_nil_iff,or_false]at hp
  rcases hp with rfl|rfl|rfl|rfl|rfl
  · intro x hx;simp only [List.mem_cons,List.mem_nil_iff,or_false]at hx;omega
  all_goals exact text_byt _
 |read k r=>
  simp only [wordsOf,List.mem_cons,List.mem_nil_iff,or_false]at hp
  rcases hp with rfl|rfl|rfl|rfl|rfl
  · intro x hx;simp only [List.mem_cons,List.mem_nil_iff,or_false]at hx;omega
  · have:=h.1;intro x hx;simp only [List.mem_cons,List.mem_nil_iff,or_false]at hx;omega
  all_goals exact text_byt _
 |frame=>
  simp only [wordsOf,List.mem_cons,List.mem_nil_iff,or_false]at hp
  subst hp
  intro x hx;simp only [List.mem_cons,List.mem_nil_iff,or_false]at hx;omega
theorem lineC_plain (c:Cmd) (h:CmdK c):∀x∈lineC c,32≤x∧x<128:=fun x hx=>by
 rcases joinW_mem 32 _ x hx with h1|⟨p,hp,h1⟩
 · omega
 · have:=words_plain c h p hp x h1;omega
theorem lineC_len (c:Cmd) (h:CmdK c):(lineC c).length≤190:=by
 cases c with
 |tune t0 t1 t2 t3=>
  have h0:=text_len t0 (wf_rng h.1)
  have h1:=text_len t1 (wf_rng h.2.1)
  have h2:=text_len t2 (wf_rng h.2.2.1)
  have h3:=text_len t3 (wf_rng h.2.2.2)
  simp only [lineC,wordsOf,joinW,List.length_append,List.length_cons,List.length_nil]
  omega
 |read k r=>
  have h0:=text_len _ (wf_rng (h.2 0 (by omega)))
  have h1:=text_len _ (wf_rng (h.2 1 (by omega)))
  have h2:=text_len _ (wf_rng (h.2 2 (by omega)))
  simp only [lineC,wordsOf,joinW,List.length_append,List.length_cons,List.length_nil]
  omega
 |frame=>simp [lineC,wordsOf,joinW]
theorem txt_len:∀cs:List Cmd,(∀c∈cs,CmdK c)→(txtC cs).length≤200*cs.length
 |[],_=>Nat.le_refl _
 |c::cs,h=>by
  have h1:=lineC_len c (h c List.mem_cons_self)
  have h2:=txt_len cs (fun d hd=>h d (List.mem_cons_of_mem _ hd))
  have e:txtC (c::cs)=(lineC c++[10])++txtC cs:=List.flatMap_cons
  rw [e]
  simp only [List.length_append,List.length_cons,List.length_nil]
  omega
theorem pieces_byte (cs:List Cmd) (h:∀c∈cs,CmdK c):∀p∈piecesC cs,∀x∈p,x<256:=fun p hp x hx=>by
 rcases List.mem_append.1 hp with hp|hp
 ·
  obtain⟨c,hc,rfl⟩:=List.mem_map.1 hp
  have:=lineC_plain c (h c hc) x hx;omega
 · rw [List.mem_singleton.1 hp]at hx;cases hx
theorem pieces_ten (cs:List Cmd) (h:∀c∈cs,CmdK c):∀p∈piecesC cs,10 ∉ p:=fun p hp hx=>by
 rcases List.mem_append.1 hp with hp|hp
 ·
  obtain⟨c,hc,rfl⟩:=List.mem_map.1 hp
  have:=lineC_plain c (h c hc) 10 hx;omega
 · rw [List.mem_singleton.1 hp]at hx;cases hx
theorem cmdN_ok {t0 t1 t2 t3:Int} (ht:Wf t0∧Wf t1∧Wf t2∧Wf t3) {ys:List InS} {R:Nat→Nat→Int} (h:Tells ys R):∀n,n≤ys.length→∀c∈cmdN t0 t1 t2 t3 R n,CmdK c
 |0,_,c,hc=>by
  rw [List.mem_singleton.1 hc];exact ht
 |n+1,hn,c,hc=>by
  rcases List.mem_append.1 (show c∈cmdN t0 t1 t2 t3 R n++cmdX (R n)from hc)with hc|hc
  · exact cmdN_ok ht h n (by omega) c hc
  ·
   have hw:=h.2.2 n (by omega)
   simp only [cmdX,rdsC,List.nil_append,List.mem_append,List.mem_singleton]at hc
   rcases hc with(((rfl|rfl)|rfl)|rfl)|rfl
   · exact⟨by omega,fun i hi=>hw _ (by omega)⟩
   · exact⟨by omega,fun i hi=>hw _ (by omega)⟩
   · exact⟨by omega,fun i hi=>hw _ (by omega)⟩
   · exact⟨by omega,fun i hi=>hw _ (by omega)⟩
   · trivial
def smallT (n:Nat):List Nat:=if n<10 then [48+n]else [48+n/10,48+n%10]
theorem decC_small (n:Nat) (h:n<100):decC n=smallT n:=by
 unfold decC smallT
 by_cases h1:n<10
 · rw [dec_lo h1,if_pos h1,List.map_cons,Nat.add_comm];rfl
 ·
  rw [dec_hi h1,dec_lo (by omega),if_neg h1]
  simp only [List.map_append,List.map_cons,List.map_nil,Nat.add_comm]
  rfl
def headL (nd fr:Nat) (u p:Nat→Int):List Nat:=headT nd fr++axs u p 3++[32]
def tailL (dg:Nat) (st:Bool) (i:Nat→Bool):List Nat:=hexOf dg++(if st then []else [32,119,101,97,107])++outs i 4
theorem line_cut (nd fr:Nat) (u p:Nat→Int) (dg:Nat) (st:Bool) (i:Nat→Bool):lineOf nd fr u p dg st i=headL nd fr u p++tailL dg st i++[10]:=by
 unfold lineOf bodyL headL tailL
 simp only [List.append_assoc]
theorem decC_ten (n:Nat):∀x∈decC n,48≤x:=fun x hx=>by
 unfold decC at hx
 obtain⟨y,hy,rfl⟩:=List.mem_map.1 hx
 omega
theorem axs_ten (u p:Nat→Int):∀n,∀x∈axs u p n,32≤x
 |0=>fun x hx=>by cases hx
 |n+1=>fun x hx=>by
  rcases List.mem_append.1 (show x∈axs u p n++axT (u n) (p n)from hx)with h|h
  · exact axs_ten u p n x h
  ·
   unfold axT at h
   simp only [List.mem_append,List.mem_cons,List.mem_nil_iff,or_false]at h
   rcases h with((h|h)|h)|h
   · omega
   · have:=text_plain _ x h;omega
   · omega
   · have:=text_plain _ x h;omega
theorem outs_ten (i:Nat→Bool):∀n,∀x∈outs i n,32≤x
 |0=>fun x hx=>by cases hx
 |n+1=>fun x hx=>by
  rcases List.mem_append.1 (show x∈outs i n++(if i n then []else [32,111,117,116]++decC n)from hx)with h|h
  · exact outs_ten i n x h
  ·
   split at h
   · cases h
   ·
    rcases List.mem_append.1 h with h|h
    · simp only [List.mem_cons,List.mem_nil_iff,or_false]at h;omega
    · have:=decC_ten n x h;omega
theorem head_ten (nd fr:Nat) (u p:Nat→Int):∀x∈headL nd fr u p,32≤x:=fun x hx=>by
 unfold headL headT at hx
 simp only [List.mem_append,List.mem_cons,List.mem_nil_iff,or_false]at hx
 rcases hx with((((h|h)|h)|h)|h)|h
 · omega
 · have:=decC_ten _ x h;omega
 · omega
 · have:=decC_ten _ x h;omega
 · exact axs_ten u p 3 x h
 · omega
theorem tail_ten (dg:Nat) (st:Bool) (i:Nat→Bool):∀x∈tailL dg st i,32≤x:=fun x hx=>by
 unfold tailL at hx
 simp only [List.mem_append]at hx
 rcases hx with(h|h)|h
 · have:=hex_dig dg x h;omega
 ·
  split at h
  · cases h
  · simp only [List.mem_cons,List.mem_nil_iff,or_false]at h;omega
 · exact outs_ten i 4 x h
end Dr
namespace Dr
open Go.RowKit Mem Rws Sm Nd Cl Cf ReadLaw Pl Tx TextLaw
def dk0 (C:Nat→Value) (j:Nat):Value:=if j<297 then C j else if j<310 then .int .i64 0 else if j=310 then .slice none 0 0 else if j=311 then .pointer none else .slice none 0 0
set_option maxRecDepth 100000 in
theorem build_desk (C:Nat→Value) (w:World):(Instr.build 85 #[(0,.agg (row 297 C))]).run Tryz.prog w=.ok (.agg (row 314 (dk0 C))) w:=by kernel_rfl
theorem dk_bad (C:Nat→Value):(row 314 (dk0 C)).setIfInBounds 309 (.int .i64 (-1))=row 314 (dkF C (fun _=>0) (.pointer none) (.slice none 0 0) (.slice none 0 0)):=by
 rw [row_set]
 refine row_congr fun j hj=>?_
 unfold dk0 dkF
 by_cases h:j=309
 · subst h;rfl
 ·
  rw [if_neg h,if_neg h]
  by_cases h1:j<297
  · rw [if_pos h1,if_pos h1]
  ·
   rw [if_neg h1,if_neg h1]
   by_cases h2:j<309
   · rw [if_pos (by omega),if_pos h2]
   ·
    rw [if_neg (by omega),if_neg h2]
    by_cases h3:j=310
    · rw [if_pos h3,if_pos h3]
    ·
     rw [if_neg h3,if_neg h3]
     by_cases h4:j=311
     · rw [if_pos h4,if_pos h4]
     ·
      rw [if_neg h4,if_neg h4]
      split<;>rfl
theorem desk_new (w:World) (g:Nat) (h:Blk w g 85 (row 314 (dkF (cluCell sd0.c.fr sd0.c.F (verOf (fun _=>none) sd0.c.V (fun _=>0))) (fun _=>0) (.pointer none) (.slice none 0 0) (.slice none 0 0)))):Desk w g sd0.c sd0.rd sd0.out (.slice none 0 0):=
 ⟨_,_,_,_,h,ver_begin _ _ _ _ _ _,.inl rfl,World.ownsRow_nil _ _ _ _,fun _=>rfl,sane_begin (by refine⟨wf_of ?_,wf_of ?_,wf_of ?_,wf_of ?_⟩<;>omega),fun _ _=>wf_zero⟩
theorem lineC_ne (c:Cmd):lineC c≠[]:=by
 cases c with
 |tune t0 t1 t2 t3=>simp [lineC,wordsOf,joinW]
 |read k r=>simp [lineC,wordsOf,joinW]
 |frame=>simp [lineC,wordsOf,joinW]
theorem wordsOf_ne (c:Cmd):wordsOf c≠[]:=by cases c<;>simp [wordsOf]
theorem words_space (c:Cmd) (h:CmdK c):∀p∈wordsOf c,32 ∉ p:=fun p hp hx=>by have:=words_plain c h p hp 32 hx;omega
theorem words_byte (c:Cmd) (h:CmdK c):∀p∈wordsOf c,∀x∈p,x<256:=fun p hp x hx=>by have:=words_plain c h p hp x hx;omega
theorem runC_step (cs:List Cmd) (j:Nat):runC cs (j+1)=stepC (runC cs j) (cs.getD j .frame):=rfl
theorem pieces_at (cs:List Cmd) (j:Nat) (h:j<cs.length):(piecesC cs).getD j []=lineC (cs.getD j .frame):=by
 unfold piecesC
 rw [List.getD_eq_getElem?_getD,List.getElem?_append_left (by rw [List.length_map];exact h),List.getElem?_map,List.getD_eq_getElem?_getD,List.getElem?_eq_getElem h]
 rfl
theorem pieces_end (cs:List Cmd):(piecesC cs).getD cs.length []=[]:=by
 unfold piecesC
 rw [List.getD_eq_getElem?_getD,List.getElem?_append_right (by rw [List.length_map];exact Nat.le_refl _),List.length_map,Nat.sub_self]
 rfl
set_option maxRecDepth 100000 in
set_option maxHeartbeats 8000000 in
theorem play_any (cs:List Cmd) (hlen:(scriptC cs).length≤20000) (hn:cs.length+1≤400) (hck:∀c∈cs,CmdK c) (hok:∀j,j<cs.length→OkC (runC cs j) (cs.getD j .frame)) (hout:∀j,j≤cs.length→(runC cs j).out.length≤1000000) (hby:∀x∈(runC cs cs.length).out,x<256)
  (m:Int) (w:World) (hm: w.cell? ⟨0,0,none⟩=some (.int .i64 m)) (hz:TzAt w) (h5:7<w.heap.size):
  Calls Tryz.prog 8 #[.string (strB (scriptC cs))] w fun e w'=>e=.returned (.tuple #[.string (strB (runC cs cs.length).out),.int .i64 0])∧Below w.heap.size w w':=by
 have HOK:=Lib.hid hok
 have HOU:=Lib.hid hout
 have HBY:=Lib.hid hby
 have HZ:=Lib.hid hz
 have HCK:=Lib.hid hck
 have hpl:(piecesC cs).length=cs.length+1:=by unfold piecesC;rw [List.length_append,List.length_map];rfl
 have HS:=Lib.hid (split_any 10 (by omega) (piecesC cs) (fun e=>by rw [e]at hpl;cases hpl) (pieces_byte cs hck) (pieces_ten cs hck) (show(scriptC cs).length<_ by omega) m w hm)
 rw [hpl]at HS
 obtain⟨X,hX⟩:∃X,X=strB (scriptC cs):=⟨_,rfl⟩
 have hxs:X.size≤20000:=by rw [hX,strB_size];exact hlen
 have HC:=Lib.hid (show Calls Tryz.prog 21 #[.string X,.string ⟨#[10]⟩] w _ from by rw [hX];exact HS.out)
 rw [←hX]
 have HM:=Lib.hid hm
 have HPL:=Lib.hid hpl
 clear hok hout hby hz hck hX HS hm hlen hpl
 have x1:¬(20000:Int)<(X.size:Int):=by omega
 have x2:¬(400:Int)<((cs.length+1:Nat):Int):=by omega
 obtain⟨n,hn0⟩:∃n,cs.length+1=n:=⟨_,rfl⟩
 have HN0:=Lib.hid hn0
 rw [hn0]at HC x2
 clear hn0
 go_enter Tryz.func8,Tryz.ntmps8
 go_wp2_with fail
 refine HC.out.mono ?_
 rintro e w2 ⟨rfl,hw2⟩
 have HRD:=Lib.hid (rd_split w (piecesC cs))
 have HB2:=Lib.hid (show Below w.heap.size w w2 from by rw [hw2];exact(Below.refl _ _).alloc (Nat.le_refl _) _)
 rw [←hw2]at HRD
 have hs2:w2.heap.size=w.heap.size+1:=by rw [hw2];simp
 clear HC hw2
 go_wp2_with fail
 refine(cluster_any 4294967296 4294967296 4294967296 68719476736 w2).mono ?_
 rintro e w3 ⟨rfl,hb⟩
 rw [begin_row]
 have HB3:=Lib.hid (onward HB2.out (Nat.le_refl _) hb)
 have HRD:=Lib.hid (((HRD.out.more (Nat.le_of_eq hs2.symm)).below hb).more hb.size)
 have hs3:w.heap.size+1≤w3.heap.size:=Nat.le_trans (Nat.le_of_eq hs2.symm) hb.size
 clear hb HB2
 obtain⟨C,hC⟩:∃C,cluCell (beginS 4294967296 4294967296 4294967296 68719476736).fr (beginS 4294967296 4294967296 4294967296 68719476736).F (verOf (fun _=>none) (beginS 4294967296 4294967296 4294967296 68719476736).V (fun _=>0))=C:=⟨_,rfl⟩
 rw [hC]
 have HBD:=Lib.hid (build_desk C)
 obtain⟨R0,hR0⟩:∃R,row 297 C=R:=⟨_,rfl⟩
 obtain⟨R1,hR1⟩:∃R,row 314 (dk0 C)=R:=⟨_,rfl⟩
 rw [hR0,hR1]at HBD
 rw [hR0]
 have HC0:=Lib.hid hC
 have HR1:=Lib.hid hR1
 clear hC hR0 hR1
 go_upto_region 7 with(first
  |(refine wpList_built rfl 85 _ rfl (.agg R1) (by simp only [List.map_toArray,List.map_cons,List.map_nil];exact HBD.out _) ?_)
  |(refine Great.wpList_boxTo rfl 85 (.tmp 18) rfl (some 19) rfl w3.heap.size rfl R1 rfl ?_))
 have F1:=Lib.hid (show Blk (w3.alloc (.cells R1 85)) w3.heap.size 85 R1 from Blk.fresh _ _ _)
 have hbA:Below w3.heap.size w3 (w3.alloc (.cells R1 85)):=(Below.refl _ _).alloc (Nat.le_refl _) _
 have HB4:=Lib.hid (onward HB3.out (Nat.le_refl _) hbA)
 have HRD:=Lib.hid (show Rd (w3.alloc (.cells R1 85)) w3.heap.size 1 _ _ _ from HRD.out.below hbA)
 clear HB3 hbA HBD
 generalize(w3.alloc (.cells R1 85))=w4 at*
 obtain⟨g,hg⟩:∃g,w3.heap.size=g:=⟨_,rfl⟩
 rw [hg]at F1 HRD hs3 ⊢
 clear hg
 have f309:=F1.out.thaw 309
 have c309:=F1.out.cell 309
 rw [←HR1.out,row_at (by omega)]at c309
 go_upto_region 8 with fail
 have HD0:=Lib.hid (show Desk (w4.setCell ⟨g,309,none⟩ (.int .i64 (-1))) g sd0.c sd0.rd sd0.out (.slice none 0 0)from desk_new _ g (by
  have h:=F1.out.set 309 (.int .i64 (-1))
  rw [←HR1.out,dk_bad,←HC0.out]at h
  exact h))
 have hbS:Below g w4 (w4.setCell ⟨g,309,none⟩ (.int .i64 (-1))):=Below.grown (Below.refl _ _) (gr_set _ _ _) (Nat.le_of_lt F1.out.lt) (fun g' e=>by injection e with e;exact Nat.le_of_eq e)
 have HRD:=Lib.hid (HRD.out.below hbS)
 have HB5:=Lib.hid (HB4.out.trans (hbS.mono (Nat.le_trans (Nat.le_succ _) hs3)))
 clear f309 c309 F1 HB4 hbS HR1 HC0
 generalize(w4.setCell ⟨g,309,none⟩ (.int .i64 (-1)))=w5 at*
 have h0n:0<n:=by have:=HN0.out;omega
 have HL5:=Lib.hid (show ∀j,j<n→ w5.cell? ⟨w.heap.size,j,none⟩=some (.string (strB ((piecesC cs).getD j [])))from fun j hj=>by
  have h:=words_at HRD.out (by rw [HPL.out,HN0.out];exact h0n) (j:=j) (by rw [HPL.out,HN0.out];exact hj)
  rwa [Nat.zero_add]at h)
 have HM5:=Lib.hid (show w5.cell? ⟨0,0,none⟩=some (.int .i64 m)from(HB5.out.cell (p:=⟨0,0,none⟩) (show 0<w.heap.size by omega)).trans HM.out)
 have HZ5:=Lib.hid (show TzAt w5 from(HB5.out.cell (p:=⟨7,15,none⟩) h5).trans HZ.out)
 have hg7:7<g:=by omega
 obtain⟨gl,hgl0⟩:∃b,w.heap.size=b:=⟨_,rfl⟩
 have HGL:=Lib.hid hgl0
 rw [hgl0]at HL5 hs3 ⊢
 clear hgl0 HRD HM HZ h5
 have hgl:gl<g:=by omega
 have hg5:g≤w5.heap.size:=by obtain⟨_,_,_,_,hd⟩:=HD0.out;exact Nat.le_of_lt hd.blk.lt
 go_wp2_with fail
 go_loopw [26] (fun v wr=>∃(j k:Nat) (b2:Value),j≤n∧k≤cs.length∧(j≤cs.length→k=j)∧(cs.length≤j→k=cs.length)∧v=.int .i64 (j:Int)∧Desk wr g (runC cs k).c (runC cs k).rd (runC cs k).out b2∧Below g w5 wr) (fun v _=>n-(intOf v).toNat)
 case atStart=>exact⟨0,0,_,by omega,by omega,fun _=>rfl,fun h=>by omega,rfl,HD0.out,Below.refl _ _⟩
 case round=>
  obtain⟨j,k,b2,hj,hk,hk1,hk2,rfl,hd,hb⟩:=hrel
  have HD:=Lib.hid hd
  have HB:=Lib.hid hb
  clear hd hb HD0
  by_cases hlt:j<n
  ·
   have hi0:(0:Int)≤(j:Int):=by omega
   have hi1:(j:Int)<(n:Int):=by omega
   have hwj:IntKind.i64.wrap ((j:Int)+1)=((j+1:Nat):Int):=by rw [IntKind.wrap_i64];omega
   have hc0:=(HB.out.cell (p:=⟨gl,j,none⟩) hgl).trans (HL5.out j hlt)
   by_cases hl:j<cs.length
   ·
    obtain rfl:=hk1 (Nat.le_of_lt hl)
    rw [pieces_at cs k hl]at hc0
    have HOK1:=Lib.hid (HOK.out k hl)
    have HST:=Lib.hid (runC_step cs k)
    have HCM:=Lib.hid (HCK.out (cs.getD k .frame) (by rw [List.getD_eq_getElem?_getD,List.getElem?_eq_getElem hl];exact List.getElem_mem _))
    obtain⟨cmd,hcmd⟩:∃c,cs.getD k .frame=c:=⟨_,rfl⟩
    rw [hcmd]at hc0 HOK1 HST HCM
    obtain⟨Y,hY⟩:∃Y,strB (lineC cmd)=Y:=⟨_,rfl⟩
    rw [hY]at hc0
    have hYe:Y.toList.isEmpty=false:=by rw [←hY,strB_empty];exact decide_eq_false (lineC_ne cmd)
    have HSP:=Lib.hid (show ∀(v:World) (m:Int),v.cell? ⟨0,0,none⟩=some (.int .i64 m)→Calls Tryz.prog 21 #[.string Y,.string ⟨#[32]⟩] v _ from fun v m hm=>by
     rw [←hY]
     exact split_any 32 (by omega) (wordsOf cmd) (wordsOf_ne cmd) (words_byte cmd HCM.out) (words_space cmd HCM.out) (by have:=lineC_len cmd HCM.out;show(lineC cmd).length<_;omega) m v hm)
    have hm1:=(HB.out.cell (p:=⟨0,0,none⟩) (show 0<g by omega)).trans HM5.out
    clear hY hcmd hk1 hk2
    go_wp2_with fail
    obtain⟨VA,VC,ba,bv,hd⟩:=HD.out
    refine(HSP.out wr m hm1).mono ?_
    rintro e w6 ⟨rfl,hw6⟩
    have HRW:=Lib.hid (rd_split wr (wordsOf cmd))
    rw [←hw6]at HRW
    have hb6:Below wr.heap.size wr w6:=by rw [hw6];exact(Below.refl _ _).alloc (Nat.le_refl _) _
    have hs6:w6.heap.size=wr.heap.size+1:=by rw [hw6];simp
    have hlr:=hd.blk.lt
    have HDA:=Lib.hid (hd.below hb6)
    have HB6:=Lib.hid (onward HB.out hg5 hb6)
    have f313:=HDA.out.blk.thaw 313
    have c313:=HDA.out.blk.cell 313
    rw [row_at (by omega)]at c313
    clear hw6 hb6 hd HD HB HSP hc0 hm1
    obtain⟨gw,hgw⟩:∃b,wr.heap.size=b:=⟨_,rfl⟩
    rw [hgw]at HRW hs6 hlr ⊢
    clear hgw
    go_upto_region 13 with fail
    have HDB:=Lib.hid (HDA.out.setB (.slice (some ⟨gw,0,none⟩) (wordsOf cmd).length (wordsOf cmd).length))
    have hgr:=gr_set w6 ⟨g,313,none⟩ (.slice (some ⟨gw,0,none⟩) (wordsOf cmd).length (wordsOf cmd).length)
    have HB7:=Lib.hid (Below.grown HB6.out hgr (Nat.le_trans hg5 HB6.out.size) (fun g' e=>by injection e with e;exact Nat.le_of_eq e))
    have HRW7:=Lib.hid (rd_kept (HRW.out.more (Nat.le_of_eq hs6.symm)) hgr.size (fun hn a e=>by injection e with e;subst e;exact hgr.block gw (by omega) (fun e=>by injection e with e;exact absurd e (by show ¬gw=g;omega))))
    clear hgr f313 c313 HDA HB6 HRW
    generalize(w6.setCell ⟨g,313,none⟩ (.slice (some ⟨gw,0,none⟩) (wordsOf cmd).length (wordsOf cmd).length))=w7 at*
    go_wp2_with fail
    refine(do_any (runC cs k) cmd HOK1.out (HOU.out k hk) g gw 0 _ (Nat.le_refl _) w7 ⟨_,_,_,_,HDB.out⟩ (show TzAt w7 from(HB7.out.cell (p:=⟨7,15,none⟩) hg7).trans HZ5.out) hg7 HRW7.out).mono ?_
    rintro e w8 ⟨rfl,⟨b3,hd8⟩,hb8⟩
    have HD8:=Lib.hid hd8
    have HB8:=Lib.hid (show Below g w5 w8 from HB7.out.trans hb8)
    clear hd8 hb8 HDB HB7 HRW7
    go_wp2_with fail
    exact⟨⟨k+1,k+1,b3,by omega,by omega,fun _=>rfl,fun h=>by omega,by go_num,by rw [HST.out];exact HD8.out,HB8.out⟩,by simp [intOf];omega⟩
   ·
    obtain rfl:j=cs.length:=by have:=HN0.out;omega
    obtain rfl:=hk1 (Nat.le_refl _)
    rw [pieces_end]at hc0
    obtain⟨Y,hY⟩:∃Y,strB []=Y:=⟨_,rfl⟩
    rw [hY]at hc0
    have hYe:Y.toList.isEmpty=true:=by rw [←hY,strB_empty];exact decide_eq_true rfl
    clear hY hk1 hk2
    go_wp2_with fail
    exact⟨⟨cs.length+1,cs.length,b2,by omega,by omega,fun h=>by omega,fun _=>rfl,by go_num,HD.out,HB.out⟩,by simp [intOf];omega⟩
  ·
   obtain rfl:j=n:=by omega
   obtain rfl:=hk2 (by have:=HN0.out;omega)
   have hd1:decide ((j:Int)<(j:Int))=false:=decide_eq_false (by omega)
   obtain⟨VA,VC,ba,bv,hd⟩:=HD.out
   have HDA:=Lib.hid hd
   clear hd hk1 hk2
   go_wp2_with fail
   refine(string_any g 311 314 85 _ (by omega) g (runC cs cs.length).out HBY.out wr HDA.out.blk HDA.out.own HDA.out.nil).mono ?_
   rintro e w6 ⟨rfl,hb⟩
   have HB6:=Lib.hid (show Below g w5 w6 from HB.out.trans hb)
   clear hb
   go_wp2_with fail
   go_ret2
   exact⟨rfl,HB5.out.trans (HB6.out.mono (by have:=HGL.out;omega))⟩
end Dr
namespace Dr
open Go.RowKit Mem Rws Sm Nd Cl Cf ReadLaw Pl Tx TextLaw
theorem step_mono (s:SD) (c:Cmd):s.out.length≤(stepC s c).out.length:=by
 cases c with
 |tune t0 t1 t2 t3=>exact Nat.le_refl _
 |read k r=>exact Nat.le_refl _
 |frame=>show _≤(s.out++_).length;rw [List.length_append];omega
theorem run_mono (cs:List Cmd) (j:Nat):∀d,(runC cs j).out.length≤(runC cs (j+d)).out.length
 |0=>Nat.le_refl _
 |d+1=>Nat.le_trans (run_mono cs j d) (step_mono _ _)
theorem lns_len {ln:Nat→List Nat}:∀n,(∀k,k<n→(ln k).length≤400)→(lnsK ln n).length≤400*n
 |0,_=>Nat.le_refl _
 |n+1,h=>by
  have h1:=lns_len n (fun k hk=>h k (by omega))
  have h2:=h n (by omega)
  show(lnsK ln n++ln n).length≤_
  rw [List.length_append];omega
theorem lns_byte {ln:Nat→List Nat}:∀n,(∀k,k<n→∀x∈ln k,x<256)→∀x∈lnsK ln n,x<256
 |0,_,x,hx=>by cases hx
 |n+1,h,x,hx=>by
  rcases List.mem_append.1 (show x∈lnsK ln n++ln n from hx)with hx|hx
  · exact lns_byte n (fun k hk=>h k (by omega)) x hx
  · exact h n (by omega) x hx
section
variable {t0 t1 t2 t3 : Int} {ys : List InS} {R : Nat → Nat → Int}
theorem rep_m (ht:Wf t0∧Wf t1∧Wf t2∧Wf t3) (h:Tells ys R) {m:Nat} (hm:m<4*ys.length):RepLn (row 14 (repF (G6 (runS t0 t1 t2 t3 ys (m/4)) (ys.getD (m/4) default) (m%4)))) (lnM t0 t1 t2 t3 ys m):=
 ok_frame ht h (m/4) (by omega) (m%4) (by omega)
theorem out_len (ht:Wf t0∧Wf t1∧Wf t2∧Wf t3) (h:Tells ys R) (n:Nat) (hn:n≤ys.length):(outN t0 t1 t2 t3 ys n).length≤1600*n:=by
 have h1:=lns_len (ln:=lnM t0 t1 t2 t3 ys) (4*n) (fun k hk=>by obtain⟨_,_,_,_,_,_,_,_,_,_,_,_,_,h,_⟩:=rep_m ht h (m:=k) (by omega);exact h)
 unfold outN
 omega
theorem out_byte (ht:Wf t0∧Wf t1∧Wf t2∧Wf t3) (h:Tells ys R) (n:Nat) (hn:n≤ys.length):∀x∈outN t0 t1 t2 t3 ys n,x<256:=
 lns_byte (ln:=lnM t0 t1 t2 t3 ys) (4*n) (fun k hk=>by obtain⟨_,_,_,_,_,_,_,_,_,_,_,_,_,_,h,_⟩:=rep_m ht h (m:=k) (by omega);exact h)
theorem play_law (ht:Wf t0∧Wf t1∧Wf t2∧Wf t3) (h:Tells ys R) (n:Nat) (hn:n≤ys.length) (hl:(txtC (cmdN t0 t1 t2 t3 R n)).length≤20000)
  (m:Int) (w:World) (hm: w.cell? ⟨0,0,none⟩=some (.int .i64 m)) (hz:TzAt w) (h5:7<w.heap.size):
  Calls Tryz.prog 8 #[.string (strB (txtC (cmdN t0 t1 t2 t3 R n)))] w fun e w'=>e=.returned (.tuple #[.string (strB (outN t0 t1 t2 t3 ys n)),.int .i64 0])∧Below w.heap.size w w':=by
 have h79:=h.1
 have hlen:=cmdN_len t0 t1 t2 t3 R n
 obtain⟨rd,_,e⟩:=stN (t0:=t0) (t1:=t1) (t2:=t2) (t3:=t3) h n hn
 have hfold:=runC_fold (cmdN t0 t1 t2 t3 R n) (cmdN t0 t1 t2 t3 R n).length (Nat.le_refl _)
 rw [List.take_length,e]at hfold
 have hout:=out_len ht h n hn
 have hp:=play_any (cmdN t0 t1 t2 t3 R n) (by rw [script_txt];exact hl) (by omega) (cmdN_ok ht h n hn) (fun j hj=>by
   rw [runC_fold _ j (Nat.le_of_lt hj)]
   exact okL_at _ _ (okN_all ht h n hn) j hj) (fun j hj=>by
   have h1:=run_mono (cmdN t0 t1 t2 t3 R n) j ((cmdN t0 t1 t2 t3 R n).length-j)
   rw [show j+((cmdN t0 t1 t2 t3 R n).length-j)=(cmdN t0 t1 t2 t3 R n).length by omega,hfold]at h1
   have h2:(SD.mk (runS t0 t1 t2 t3 ys n) rd (outN t0 t1 t2 t3 ys n) n).out.length=(outN t0 t1 t2 t3 ys n).length:=rfl
   omega) (by rw [hfold];exact out_byte ht h n hn) m w hm hz h5
 rw [hfold,script_txt]at hp
 exact hp
theorem line_m (ht:Wf t0∧Wf t1∧Wf t2∧Wf t3) (h:Tells ys R) {m:Nat} (hm:m<4*ys.length):∃(nd fr:Nat) (u p:Nat→Int) (d:Int) (st:Bool) (i:Nat→Bool),nd<10∧fr<100∧(∀k,k<3→ -9223372036854775808≤u k∧u k≤9223372036854775807)∧(∀k,k<3→ -9223372036854775808≤p k∧p k≤9223372036854775807)∧
  row 14 (repF (G6 (runS t0 t1 t2 t3 ys (m/4)) (ys.getD (m/4) default) (m%4)))=repA nd fr u p d st i∧lnM t0 t1 t2 t3 ys m=headL nd fr u p++tailL (d%4294967296).toNat st i++[10]:=by
 have hr:=rep_m ht h hm
 obtain⟨nd,fr,u,p,d,st,i,_,hfr,hu,hp,hR,hl,_⟩:=hr
 refine⟨nd,fr,u,p,d,st,i,?_,hfr,hu,hp,hR,by rw [hl,line_cut]⟩
 have hn:m/4<ys.length:=by omega
 have hs:=sane_run (ys:=ys) ht h.good (m/4) (by omega)
 have hs1:=sane_run (ys:=ys) ht h.good (m/4+1) (by omega)
 rw [runS_succ]at hs1
 have hb:((m%4:Nat):Int)≠(ys.getD (m/4) default).bad:=by rw [h.2.1 _ hn];show((m%4:Nat):Int)≠ -1;omega
 have h0:=(fr_good hs (h.good.2 _ hn).2.1 hs1 (Nat.mod_lt _ (by omega)) hb).2.2.1
 have e1:(row 14 (repF (G6 (runS t0 t1 t2 t3 ys (m/4)) (ys.getD (m/4) default) (m%4))))[0]?=some (.int .i64 ((m%4:Nat):Int)):=by
  rw [row_at (by omega)]
  show some (G6 _ _ _ 0)=_
  rw [h0]
 rw [hR]at e1
 have e2:(some (Value.int .i64 (nd:Int)))=some (.int .i64 ((m%4:Nat):Int)):=e1
 injection e2 with e2
 injection e2 with _ e2
 omega
noncomputable def allR (t0 t1 t2 t3:Int) (ys:List InS):Nat→List Value
 |0=>[]
 |n+1=>allR t0 t1 t2 t3 ys n++reps (runS t0 t1 t2 t3 ys n) (ys.getD n default) 4
theorem reps_len4 (c:CluS) (x:InS) (hx:x.bad= -1):(reps c x 4).length=56:=by
 unfold reps
 rw [hx]
 show(([0,1,2,3]:List Nat).flatMap fun i=>(row 14 (repF (G6 c x i))).toList).length=56
 simp only [List.flatMap_cons,List.flatMap_nil,List.length_append,Array.length_toList,row_size,List.length_nil]
theorem allR_len (h:Tells ys R):∀n,n≤ys.length→(allR t0 t1 t2 t3 ys n).length=56*n
 |0,_=>rfl
 |n+1,hn=>by
  show(allR t0 t1 t2 t3 ys n++reps _ _ 4).length=_
  rw [List.length_append,allR_len h n (by omega),reps_len4 _ _ (by rw [h.2.1 n (by omega)])]
  omega
theorem allR_get (h:Tells ys R):∀n,n≤ys.length→∀m,m<4*n→∀a,a<14→(allR t0 t1 t2 t3 ys n)[m*14+a]?=some (repF (G6 (runS t0 t1 t2 t3 ys (m/4)) (ys.getD (m/4) default) (m%4)) a)
 |0,_,m,hm,_,_=>by omega
 |n+1,hn,m,hm,a,ha=>by
  have hl:=allR_len (t0:=t0) (t1:=t1) (t2:=t2) (t3:=t3) h n (by omega)
  show(allR t0 t1 t2 t3 ys n++reps _ _ 4)[_]?=_
  by_cases h4:m<4*n
  ·
   rw [List.getElem?_append_left (by rw [hl];omega)]
   exact allR_get h n (by omega) m h4 a ha
  ·
   have e1:m/4=n:=by omega
   rw [List.getElem?_append_right (by rw [hl];omega),hl,show m*14+a-56*n=m%4*14+a by omega,e1]
   unfold reps
   rw [h.2.1 n (by omega)]
   exact reps4 _ (m%4) a (by omega) ha
end
end Dr
namespace Dr
open Go.RowKit Mem
set_option maxRecDepth 100000 in
set_option maxHeartbeats 1000000 in
theorem play_long (X:ByteArray) (h:20000<X.size) (w:World):Calls Tryz.prog 8 #[.string X] w fun e w'=>e=.returned (.tuple #[.string .empty,.int .i64 1])∧w'=w:=by
 have x1:(20000:Int)<(X.size:Int):=by omega
 go_enter Tryz.func8,Tryz.ntmps8
 go_wp2_with fail
 go_ret2
 exact⟨rfl,rfl⟩
end Dr
end Go.Proofs.YtljpoibnkkcjdaaGreatDoor
