import Derived.Lib.Mul64
import Derived.Lib.SlKeysI
import Derived.Test.YtljpoibnkkcjdaaGreatDoorPc10
set_option linter.unusedVariables false
set_option linter.unusedSimpArgs false
namespace Go.Proofs.YtljpoibnkkcjdaaGreatDoor
namespace BigW
open Go.RowKit Mem BigLaw
theorem grown_setCell (w:World) (p i:Nat) (u:Value):w.grownBy (w.setCell ⟨p,i,none⟩ u) (some p):=
 have hb:Below p w (w.setCell ⟨p,i,none⟩ u):=(Below.refl p w).setCell (Nat.le_refl _) u
 ⟨hb.os,hb.tape,hb.output,hb.size,fun k hk hne=>Below.heap_setCell w ⟨p,i,none⟩ u k (fun e=>hne (by rw [e]))⟩
theorem below_grown {B:Nat} {a w w':World} {row:Option Nat} (h:Below B a w) (hB:B≤a.heap.size) (hg:w.grownBy w' row) (hr:∀g,row=some g→B≤g):Below B a w':=by
 refine⟨hg.os.trans h.os,hg.tape.trans h.tape,hg.output.trans h.output,Nat.le_trans h.size hg.size,fun g hgB=>?_⟩
 rw [hg.block g (by have:=h.size;omega) (fun e=>by have:=hr g e.symm;omega)]
 exact h.block g hgB
theorem grown_of_below {w w':World} {row:Option Nat} (hb:Below w.heap.size w w'):w.grownBy w' row:=⟨hb.os,hb.tape,hb.output,hb.size,fun g hg _=>hb.block g hg⟩
end BigW
namespace BigW
open Go.RowKit Mem BigLaw
def Sg (s:Bool) (X:Int):Prop:=X≠0→s=decide (X<0)
theorem Sg.neg {s:Bool} {X:Int} (h:Sg s X):Sg (!s) (-X):=fun h0=>by
 rw [h (by omega)]
 by_cases h1:X<0
 · simp [h1];omega
 · simp [h1];omega
theorem Wd.drew {w:World} {B:Nat} {A:Option Addr} {c:Nat} {l:List Nat} (h:Wd w B A c l):Wd w.drew B A c l:=⟨h.len,h.cap,h.none_,h.rd.drew,h.small⟩
end BigW
namespace BigLaw
theorem valF_add (f:Nat→Nat) (a:Nat):∀b,valF f (a+b)=valF f a+valF (fun i=>f (a+i)) b*pw a
 |0=>by simp [valF]
 |b+1=>by
  have ih:=valF_add f a b
  rw [←Nat.add_assoc,valF_succ,valF_succ,ih,Nat.add_mul,pw_add,Nat.mul_comm (pw a),Nat.mul_assoc]
  omega
theorem mul_le_word {x y:Nat} (hx:x≤4294967295) (hy:y≤4294967295):x*y≤18446744065119617025:=Nat.mul_le_mul hx hy
theorem val_two (v:Nat→Nat) (n:Nat) (hv:∀i,v i<4294967296):
  (v (n+1)*4294967296+v n)*pw n≤valF v (n+2)∧valF v (n+2)<(v (n+1)*4294967296+v n+1)*pw n:=by
 have h:=valF_lt (f:=v) (n:=n) (fun i _=>hv i)
 have e:valF v (n+2)=valF v n+v n*pw n+v (n+1)*pw (n+1):=rfl
 rw [e,pw_succ,←Nat.mul_assoc,Nat.add_mul,Nat.add_mul,Nat.add_mul,Nat.one_mul]
 omega
theorem val_three (u:Nat→Nat) (n:Nat) (hu:∀i,u i<4294967296):
  ((u (n+2)*4294967296+u (n+1))*4294967296+u n)*pw n≤valF u (n+3)∧valF u (n+3)<((u (n+2)*4294967296+u (n+1))*4294967296+u n+1)*pw n:=by
 have h:=valF_lt (f:=u) (n:=n) (fun i _=>hu i)
 have e:valF u (n+3)=valF u n+u n*pw n+u (n+1)*pw (n+1)+u (n+2)*pw (n+2):=rfl
 have p1:pw (n+1)=4294967296*pw n:=pw_succ n
 have p2:pw (n+2)=4294967296*(4294967296*pw n):=by rw [pw_succ,pw_succ]
 rw [e,p1,p2]
 have e1:u (n+1)*(4294967296*pw n)=u (n+1)*4294967296*pw n:=by rw [Nat.mul_assoc]
 have e2:u (n+2)*(4294967296*(4294967296*pw n))=u (n+2)*4294967296*4294967296*pw n:=by rw [←Nat.mul_assoc,←Nat.mul_assoc]
 rw [e1,e2]
 have e3:((u (n+2)*4294967296+u (n+1))*4294967296+u n)*pw n=u (n+2)*4294967296*4294967296*pw n+u (n+1)*4294967296*pw n+u n*pw n:=by
  rw [Nat.add_mul,Nat.add_mul,Nat.add_mul]
 have e4:((u (n+2)*4294967296+u (n+1))*4294967296+u n+1)*pw n=u (n+2)*4294967296*4294967296*pw n+u (n+1)*4294967296*pw n+u n*pw n+pw n:=by
  rw [Nat.add_mul,Nat.one_mul,e3]
 omega
def Trial (U V h top g r:Nat):Prop:=g*top+r=h∧U/V≤g
structure Step (u v:Nat→Nat) (n:Nat):Prop where
 hu:∀i,u i<4294967296
 hv:∀i,v i<4294967296
 top:2147483648≤v (n+1)
 lt:valF u (n+3)<valF v (n+2)*4294967296
theorem Step.pos {u v:Nat→Nat} {n:Nat} (S:Step u v n):0<valF v (n+2):=by
 have:=(val_two v n S.hv).1
 have h1:=S.top
 have h2:=pw_pos n
 have:1*pw n≤(v (n+1)*4294967296+v n)*pw n:=Nat.mul_le_mul_right _ (by omega)
 omega
theorem Step.high {u v:Nat→Nat} {n:Nat} (S:Step u v n):u (n+2)≤v (n+1):=by
 have h1:=(val_two v n S.hv).2
 have h2:=(val_three u n S.hu).1
 have h3:=S.lt
 have h4:valF v (n+2)*4294967296≤(v (n+1)*4294967296+v n+1)*pw n*4294967296:=Nat.mul_le_mul_right _ (by omega)
 have h5:((u (n+2)*4294967296+u (n+1))*4294967296+u n)*pw n<(v (n+1)*4294967296+v n+1)*4294967296*pw n:=by
  have e:(v (n+1)*4294967296+v n+1)*4294967296*pw n=(v (n+1)*4294967296+v n+1)*pw n*4294967296:=by rw [Nat.mul_right_comm]
  rw [e];omega
 have h6:=Nat.lt_of_mul_lt_mul_right h5
 have:=S.hv n
 omega
theorem Step.first {u v:Nat→Nat} {n:Nat} (S:Step u v n):
  Trial (valF u (n+3)) (valF v (n+2)) (u (n+2)*4294967296+u (n+1)) (v (n+1)) ((u (n+2)*4294967296+u (n+1))/v (n+1)) ((u (n+2)*4294967296+u (n+1))%v (n+1)):=by
 have hp:=S.pos
 have ht:=S.top
 refine⟨by rw [Nat.mul_comm];exact Nat.div_add_mod _ _,?_⟩
 rw [Nat.le_div_iff_mul_le (by omega)]
 have hq:valF u (n+3)/valF v (n+2)*valF v (n+2)≤valF u (n+3):=Nat.div_mul_le_self _ _
 generalize valF u (n+3)/valF v (n+2)=q at hq
 have h1:=(val_two v n S.hv).1
 have h2:=(val_three u n S.hu).2
 have h3:q*((v (n+1)*4294967296+v n)*pw n)≤q*valF v (n+2):=Nat.mul_le_mul_left _ h1
 have h4:q*(v (n+1)*4294967296+v n)*pw n<((u (n+2)*4294967296+u (n+1))*4294967296+u n+1)*pw n:=by
  rw [Nat.mul_assoc];omega
 have h5:=Nat.lt_of_mul_lt_mul_right h4
 rw [Nat.mul_add,←Nat.mul_assoc]at h5
 have:=S.hu n
 omega
theorem Step.less {u v:Nat→Nat} {n:Nat} (S:Step u v n) {g r:Nat}
  (h:Trial (valF u (n+3)) (valF v (n+2)) (u (n+2)*4294967296+u (n+1)) (v (n+1)) g r) (hc:4294967296≤g∨r*4294967296+u n<g*v n):
  0<g∧Trial (valF u (n+3)) (valF v (n+2)) (u (n+2)*4294967296+u (n+1)) (v (n+1)) (g-1) (r+v (n+1)):=by
 have hp:=S.pos
 obtain⟨h1,h2⟩:=h
 have hlt:valF u (n+3)/valF v (n+2)<g:=by
  rcases hc with hc|hc
  ·
   have:valF u (n+3)/valF v (n+2)<4294967296:=by
    rw [Nat.div_lt_iff_lt_mul hp,Nat.mul_comm];exact S.lt
   omega
  ·
   rw [Nat.div_lt_iff_lt_mul hp]
   have h3:=(val_two v n S.hv).1
   have h4:=(val_three u n S.hu).2
   have h5:g*((v (n+1)*4294967296+v n)*pw n)≤g*valF v (n+2):=Nat.mul_le_mul_left _ h3
   have h6:((u (n+2)*4294967296+u (n+1))*4294967296+u n+1)*pw n≤g*(v (n+1)*4294967296+v n)*pw n:=by
    refine Nat.mul_le_mul_right _ ?_
    rw [Nat.mul_add,←Nat.mul_assoc,←h1,Nat.add_mul]
    omega
   rw [Nat.mul_assoc]at h6
   omega
 refine⟨Nat.lt_of_le_of_lt (Nat.zero_le _) hlt,?_,Nat.le_sub_one_of_lt hlt⟩
 have hg0:0<g:=Nat.lt_of_le_of_lt (Nat.zero_le _) hlt
 obtain⟨k,rfl⟩:∃k,g=k+1:=⟨g-1,by omega⟩
 rw [Nat.add_mul,Nat.one_mul]at h1
 rw [Nat.add_sub_cancel]
 omega
theorem Step.last {u v:Nat→Nat} {n:Nat} (S:Step u v n) {g r:Nat}
  (h:Trial (valF u (n+3)) (valF v (n+2)) (u (n+2)*4294967296+u (n+1)) (v (n+1)) g r) (hc:(g<4294967296∧g*v n≤r*4294967296+u n)∨4294967296≤r):
  g<4294967296∧g*valF v (n+2)<valF u (n+3)+valF v (n+2):=by
 have hhigh:=S.high
 have ht:=S.top
 have hv0:=S.hv n
 have hu1:=S.hu (n+1)
 obtain⟨h1,h2⟩:=h
 have hg:g<4294967296:=by
  rcases hc with hc|hc
  · exact hc.1
  ·
   have h3:g*v (n+1)<4294967296*v (n+1):=by
    have:u (n+2)*4294967296≤v (n+1)*4294967296:=Nat.mul_le_mul_right _ hhigh
    omega
   exact Nat.lt_of_mul_lt_mul_right h3
 have hm:g*v n≤r*4294967296+u n:=by
  rcases hc with hc|hc
  · exact hc.2
  ·
   have:=mul_le_word (x:=g) (y:=v n) (by omega) (by omega)
   have:4294967296*4294967296≤r*4294967296:=Nat.mul_le_mul_right _ hc
   omega
 refine⟨hg,?_⟩
 have h3:=(val_two v n S.hv)
 have h4:=(val_three u n S.hu).1
 have e1:g*(v (n+1)*4294967296+v n+1)≤(u (n+2)*4294967296+u (n+1))*4294967296+u n+4294967296:=by
  rw [Nat.mul_add,Nat.mul_add,←Nat.mul_assoc,←h1,Nat.add_mul,Nat.mul_one]
  omega
 have e2:g*valF v (n+2)≤g*((v (n+1)*4294967296+v n+1)*pw n):=Nat.mul_le_mul_left _ (by omega)
 have e3:g*(v (n+1)*4294967296+v n+1)*pw n≤((u (n+2)*4294967296+u (n+1))*4294967296+u n+4294967296)*pw n:=Nat.mul_le_mul_right _ e1
 have e5:((u (n+2)*4294967296+u (n+1))*4294967296+u n+4294967296)*pw n=((u (n+2)*4294967296+u (n+1))*4294967296+u n)*pw n+4294967296*pw n:=Nat.add_mul _ _ _
 rw [Nat.mul_assoc,e5]at e3
 have e4:(4294967296+1)*pw n≤(v (n+1)*4294967296+v n)*pw n:=Nat.mul_le_mul_right _ (by omega)
 have hp:=pw_pos n
 rw [Nat.add_mul]at e4
 omega
structure Whole (U0 V:Nat) (u q:Nat→Nat) (n m k:Nat):Prop where
 hu:∀i,u i<4294967296
 hq:∀i,q i<4294967296
 low:∀i,i<k→q i=0
 high:∀i,k+n≤i→u i=0
 lt:valF (fun i=>u (k+i)) n<V
 sum:valF q (m+1)*V+valF u (m+n+1)=U0
theorem valF_set {f g:Nat→Nat} {L j a b:Nat} (h:L=j+a+b) (hlo:∀i,i<j→g i=f i) (hhi:∀i,j+a≤i→g i=f i):
  valF g L+valF (fun i=>f (j+i)) a*pw j=valF f L+valF (fun i=>g (j+i)) a*pw j:=by
 subst h
 rw [valF_add,valF_add,valF_add f,valF_add f,valF_congr (f:=g) (g:=f) (n:=j) hlo,valF_congr (f:=fun i=>g (j+a+i)) (g:=fun i=>f (j+a+i)) (n:=b) (fun i _=>hhi _ (by omega))]
 omega
theorem Whole.next {U0 V:Nat} {u q:Nat→Nat} {n m j:Nat} (h:Whole U0 V u q (n+2) m (j+1)) (hj:j≤m) (hVlt:V<pw (n+2)) {d:Nat→Nat} {g:Nat} (hd:∀i,d i<4294967296) (hg:g<4294967296)
  (hsum:g*V+valF d (n+3)=valF (fun i=>u (j+i)) (n+3)) (hlt:valF d (n+3)<V):
  Whole U0 V (fun i=>if i<j then u i else if i<j+n+3 then d (i-j)else u i) (fun i=>if i=j then g else q i) (n+2) m j:=by
 have hu2:valF (fun i=>if j+i<j then u (j+i)else if j+i<j+n+3 then d (j+i-j)else u (j+i)) (n+3)=valF d (n+3):=
  valF_congr fun i hi=>by
   show(if j+i<j then u (j+i)else if j+i<j+n+3 then d (j+i-j)else u (j+i))=d i
   rw [if_neg (by omega),if_pos (by omega),show j+i-j=i by omega]
 have htop:d (n+2)=0:=by
  have e:valF d (n+3)=valF d (n+2)+d (n+2)*pw (n+2):=rfl
  rcases Nat.eq_zero_or_pos (d (n+2))with h0|h0
  · exact h0
  ·
   have:1*pw (n+2)≤d (n+2)*pw (n+2):=Nat.mul_le_mul_right _ h0
   omega
 refine⟨fun i=>?_,fun i=>?_,fun i hi=>?_,fun i hi=>?_,?_,?_⟩
 ·
  show(if i<j then u i else if i<j+n+3 then d (i-j)else u i)<_
  have:=h.hu i
  have:=hd (i-j)
  split
  · assumption
  · split<;>assumption
 ·
  show(if i=j then g else q i)<_
  have:=h.hq i
  split<;>assumption
 ·
  show(if i=j then g else q i)=0
  rw [if_neg (by omega)]
  exact h.low i (by omega)
 ·
  show(if i<j then u i else if i<j+n+3 then d (i-j)else u i)=0
  rw [if_neg (by omega)]
  split
  · rw [show i-j=n+2 by omega];exact htop
  · exact h.high i (by omega)
 ·
  have e:valF (fun i=>if j+i<j then u (j+i)else if j+i<j+n+3 then d (j+i-j)else u (j+i)) (n+3)=valF (fun i=>if j+i<j then u (j+i)else if j+i<j+n+3 then d (j+i-j)else u (j+i)) (n+2)+(if j+(n+2)<j then u (j+(n+2))else if j+(n+2)<j+n+3 then d (j+(n+2)-j)else u (j+(n+2)))*pw (n+2):=rfl
  show valF (fun i=>if j+i<j then u (j+i)else if j+i<j+n+3 then d (j+i-j)else u (j+i)) (n+2)<V
  omega
 ·
  have hs:=h.sum
  have e1:=valF_set (f:=u) (g:=fun i=>if i<j then u i else if i<j+n+3 then d (i-j)else u i) (L:=m+(n+2)+1) (j:=j) (a:=n+3) (b:=m-j) (by omega)
   (fun i hi=>by show(if i<j then u i else _)=_;rw [if_pos hi]) (fun i hi=>by show(if i<j then u i else if i<j+n+3 then d (i-j)else u i)=_;rw [if_neg (by omega),if_neg (by omega)])
  rw [hu2]at e1
  have e2:=valF_set (f:=q) (g:=fun i=>if i=j then g else q i) (L:=m+1) (j:=j) (a:=1) (b:=m-j) (by omega)
   (fun i hi=>by show(if i=j then g else q i)=_;rw [if_neg (by omega)]) (fun i hi=>by show(if i=j then g else q i)=_;rw [if_neg (by omega)])
  have e3:valF (fun i=>if j+i=j then g else q (j+i)) 1=g:=by
   show 0+(if j+0=j then g else q (j+0))*pw 0=g
   rw [Nat.add_zero,if_pos rfl,pw_zero];omega
  have e4:valF (fun i=>q (j+i)) 1=0:=by
   show 0+q (j+0)*pw 0=0
   rw [Nat.add_zero,h.low j (by omega)];omega
  rw [e3,e4,Nat.zero_mul,Nat.add_zero]at e2
  show valF (fun i=>if i=j then g else q i) (m+1)*V+valF (fun i=>if i<j then u i else if i<j+n+3 then d (i-j)else u i) (m+(n+2)+1)=U0
  rw [e2,Nat.add_mul,←hs]
  have e5:g*pw j*V+valF d (n+3)*pw j=valF (fun i=>u (j+i)) (n+3)*pw j:=by
   rw [←hsum,Nat.add_mul,Nat.mul_right_comm]
  omega
theorem Whole.done {U0 V:Nat} {u q:Nat→Nat} {n m:Nat} (h:Whole U0 V u q n m 0):valF q (m+1)=U0/V∧valF u (m+n+1)=U0%V:=by
 have h1:=h.sum
 have h2:=h.lt
 have e:valF u (m+n+1)=valF u n:=valF_zeros (by omega) (fun i hi _=>h.high i (by omega))
 have e2:valF (fun i=>u (0+i)) n=valF u n:=valF_congr fun i _=>by rw [Nat.zero_add]
 rw [e2]at h2
 rw [e]at h1 ⊢
 have hp:0<V:=by omega
 constructor
 ·
  symm
  rw [Nat.div_eq_iff hp]
  omega
 · rw [←h1,Nat.mul_add_mod_self_right,Nat.mod_eq_of_lt h2]
theorem Whole.step {U0 V:Nat} {u q:Nat→Nat} {n m j:Nat} {v:Nat→Nat} (h:Whole U0 V u q (n+2) m (j+1)) (hv:∀i,v i<4294967296) (hV:valF v (n+2)=V) (ht:2147483648≤v (n+1)):Step (fun i=>u (j+i)) v n:=by
 refine⟨fun i=>h.hu _,hv,ht,?_⟩
 have h1:=h.lt
 have h2:=h.hu j
 rw [hV]
 have e:valF (fun i=>u (j+i)) (1+(n+2))=_:=valF_add (fun i=>u (j+i)) 1 (n+2)
 have e1:valF (fun i=>u (j+i)) 1=u j:=by
  show 0+u (j+0)*pw 0=_
  rw [pw_zero];simp
 have e2:valF (fun i=>u (j+(1+i))) (n+2)=valF (fun i=>u (j+1+i)) (n+2):=valF_congr fun i _=>by rw [Nat.add_assoc]
 rw [show n+3=1+(n+2)by omega,e,e1,e2,show pw 1=4294967296 from rfl]
 omega
theorem Whole.first {U0 V:Nat} {u:Nat→Nat} {n m:Nat} (hu:∀i,u i<4294967296) (hz:∀i,m+n+2≤i→u i=0) (hV:pw (n+1)≤V) (hs:valF u (m+n+3)=U0):Whole U0 V u (fun _=>0) (n+2) m (m+1):=by
 refine⟨hu,fun _=>by omega,fun _ _=>rfl,fun i hi=>hz i (by omega),?_,?_⟩
 ·
  have e:valF (fun i=>u (m+1+i)) (n+2)=valF (fun i=>u (m+1+i)) (n+1)+u (m+1+(n+1))*pw (n+1):=rfl
  have h1:=valF_lt (f:=fun i=>u (m+1+i)) (n:=n+1) (fun i _=>hu _)
  rw [e,hz _ (by omega)]
  omega
 ·
  have e:valF (fun _=>0) (m+1)=0:=valF_zeros (a:=0) (Nat.zero_le _) (fun _ _ _=>rfl)
  rw [e,show m+(n+2)+1=m+n+3 by omega]
  omega
end BigLaw
namespace BigW
open Go.RowKit Mem BigLaw
structure Grown2 (w w':World) (z m:Nat):Prop where
 os:w'.os=w.os
 tape:w'.tape=w.tape
 output:w'.output=w.output
 size:w.heap.size≤w'.heap.size
 block:∀k,k<w.heap.size→k≠z→k≠m→w'.heap[k]?=w.heap[k]?
theorem Grown2.of_below {w w':World} {z m:Nat} (h:Below w.heap.size w w'):Grown2 w w' z m:=⟨h.os,h.tape,h.output,h.size,fun k hk _ _=>h.block k hk⟩
theorem Grown2.trans {a b c:World} {z m:Nat} (h:Grown2 a b z m) (k:Grown2 b c z m):Grown2 a c z m:=
 ⟨k.os.trans h.os,k.tape.trans h.tape,k.output.trans h.output,Nat.le_trans h.size k.size,fun i hi h1 h2=>(k.block i (by have:=h.size;omega) h1 h2).trans (h.block i hi h1 h2)⟩
theorem Grown2.fst {w w':World} {z m:Nat} (h:Grown2 w w' z m) (hm:w.heap.size≤m):w.grownBy w' (some z):=⟨h.os,h.tape,h.output,h.size,fun k hk h1=>h.block k hk (fun e=>h1 (by rw [e])) (by omega)⟩
end BigW
namespace Md
open Go.RowKit Mem Go.Proofs.YtljpoibnkkcjdaaGreatDoor.Ms BigW BigLaw
set_option maxHeartbeats 400000 in
theorem half_any (a b:Int) (w:World) (ha: -9223372036854775808≤a∧a≤9223372036854775807) (hb: -9223372036854775808≤b∧b≤9223372036854775807):
  Calls Tryz.prog 77 #[.int .i64 a,.int .i64 b] w fun e w'=>e=.returned (.int .i64 ((a+b)/2))∧w=w':=by
 have H:=Lib.hid (half_eq a b ha hb)
 have h2:=(and_xor a b ha hb).1
 have h3:=(and_xor a b ha hb).2.1
 have h4:=(and_xor a b ha hb).2.2
 obtain⟨p,hp⟩:∃p,bits .and .i64 a b=p:=⟨_,rfl⟩
 obtain⟨q,hq⟩:∃q,bits .xor .i64 a b=q:=⟨_,rfl⟩
 rw [hp,hq]at H
 rw [hp,hq]at h2
 rw [hp]at h3
 rw [hq]at h4
 obtain⟨s,hs⟩:∃s,(a+b)/2=s:=⟨_,rfl⟩
 rw [hs]at H ⊢
 have hs1: -9223372036854775808≤s:=by omega
 have hs2:s≤9223372036854775807:=by omega
 have hr1: -9223372036854775808≤p+q/2:=by rw [H.out];exact hs1
 have hr2:p+q/2≤9223372036854775807:=by rw [H.out];exact hs2
 clear h2 hs ha hb
 go_enter Tryz.func77,Tryz.ntmps77
 go_wp2_with fail
 go_ret
 exact⟨ret_int H.out,rfl⟩
end Md
namespace Md
open Go.RowKit Go.Sort Go.Shelf Mem Go.Proofs.YtljpoibnkkcjdaaGreatDoor.Ms
theorem sort_any (g:Nat) (c:Nat) (zs:List Int) (w:World) (hl:zs.length≤1000) (hH:Holds (Value.int .i64) w g 0 zs.toArray) (hg:g<w.heap.size):
  Calls Tryz.prog 98 #[.slice (some ⟨g,0,none⟩) zs.length c] w fun e w'=>e=.returned (.tuple #[])∧∃n os,w'=grow (putRow (Value.int .i64) (Sort.ahead w n) g 0 (srt zs).toArray) os:=
 AnyM.slices_Sort_int Sl.sort_lay g 0 c zs w hH hg (by omega)
set_option maxRecDepth 100000 in
set_option maxHeartbeats 1000000 in
theorem sorted_any (A:Option Addr) (cap:Nat) (zs:List Int) (hl:zs.length≤1000) (h0:0<zs.length) (Bs:Nat) (w:World) (hBs:Bs<w.heap.size) (cs: w.cell? ⟨Bs,0,none⟩=some (.slice A zs.length cap)) (hr:Rd w w.heap.size 1 A zs.length (intsV zs)):
  Calls Tryz.prog 75 #[.func (.func 99) #[] #[.pointer (some ⟨Bs,0,none⟩)]] w fun e w'=>∃g c,e=.returned (.slice (some ⟨g,0,none⟩) zs.length c)∧zs.length≤c∧c≤maxLen∧w.heap.size≤g∧(∀j,j<zs.length→ w'.cell? ⟨g,j,none⟩=some (.int .i64 ((srt zs).getD j 0)))∧Below w.heap.size w w':=by
 have C:=Lib.hid (So.collect_any A cap zs hl Bs w hBs cs hr)
 clear cs hr
 go_enter Tryz.func75,Tryz.ntmps75
 go_wp2_with fail
 refine C.out.mono ?_
 rintro e w1 ⟨A1,c1,rfl,hown,hb⟩
 obtain⟨_,⟨_,hz⟩|⟨gb,cp,cur,hv,hbase,hgb,r1,r2,r3,r4⟩⟩:=hown
 · omega
 cases hv
 have hH:Holds encZ w1 gb 0 zs.toArray:=holds_of_block_i hgb (by rw [Nat.mul_one]at r4;exact r4)
 have C2:=Lib.hid (sort_any gb c1 zs w1 hl hH (Array.getElem?_eq_some_iff.1 hgb).1)
 have HO:=Lib.hid (fun(n:Nat) (os:Array Obj)=>ownsRow_sorted_i (n:=n) (os:=os) (ts:=srt zs) (srt_len zs) hbase hgb r1 r2 r3)
 have HG:=Lib.hid (fun(n:Nat) (os:Array Obj)=>grownBy_sorted_i (w:=w1) (g:=gb) (n:=n) (os:=os) (srt zs).toArray)
 have HB:=Lib.hid hb
 have HX:=Lib.hid (And.intro hbase (And.intro r1 r2))
 clear hH hgb hb hbase r1 r2 r3 r4 C
 go_wp2_with fail
 refine C2.out.mono ?_
 rintro e w2 ⟨rfl,n,os,rfl⟩
 have HO:=Lib.hid (HO.out n os)
 have HB:=Lib.hid (HB.out.grown (HG.out n os) HB.out.size (fun j hj=>by cases hj;exact HX.out.1))
 have HE:=Lib.hid (show encZ=Value.int .i64 from rfl)
 clear C2 HG
 rw [HE.out]at HO HB
 generalize(grow (putRow (Value.int .i64) (Sort.ahead w1 n) gb 0 (srt zs).toArray) os)=w2 at*
 go_wp2_with fail
 go_ret
 refine⟨gb,c1,rfl,HX.out.2.1,HX.out.2.2,HX.out.1,fun j hj=>?_,HB.out⟩
 have h:=HO.out.cells (g:=gb) (j:=j) rfl (u:=.int .i64 ((srt zs).getD j 0)) (by
  rw [List.getElem?_map,List.getD_eq_getElem?_getD,List.getElem?_eq_getElem (by rw [srt_len];exact hj)]
  rfl)
 have e:(⟨gb,0,none⟩:Addr).add j=⟨gb,j,none⟩:=by unfold Addr.add;split<;>simp_all
 rwa [e]at h
set_option maxRecDepth 100000 in
set_option maxHeartbeats 1000000 in
theorem middle_any (A:Option Addr) (c:Nat) (zs:List Int) (B:Nat) (w:World) (hB:B≤w.heap.size) (hl:zs.length≤140737488355328) (ho:∀z∈zs,-9223372036854775808≤z∧z≤9223372036854775807) (hr:Rd w B 1 A zs.length (intsV zs)):
  Calls Tryz.prog 54 #[.slice A zs.length c] w fun e w'=>e=.returned (.tuple #[.int .i64 (midZ zs).1,.int .i64 (midZ zs).2])∧Below w.heap.size w w':=by
 have HR:=Lib.hid hr
 have HO:=Lib.hid ho
 have HZ:=Lib.hid (show midZ zs=if zs.length=0∨64<zs.length then(0,8)else(midOf zs,0)from rfl)
 clear hr ho
 by_cases h0:zs.length<1
 ·
  have hz:=HZ.out.trans (if_pos (.inl (by omega)))
  have h0':((zs.length:Int)==0)=true:=beq_iff_eq.2 (by omega)
  have HZ2:=Lib.hid hz
  clear hz HZ h0
  go_enter Tryz.func54,Tryz.ntmps54
  go_wp2_with fail
  go_ret2
  exact⟨by rw [HZ2.out];rfl,Below.refl _ _⟩
 have h0':((zs.length:Int)==0)=false:=beq_eq_false_iff_ne.2 (by omega)
 by_cases h1:64<zs.length
 ·
  have hz:=HZ.out.trans (if_pos (.inr h1))
  have h1':(64:Int)<(zs.length:Int):=by omega
  have HZ2:=Lib.hid hz
  clear hz HZ h0 h1
  go_enter Tryz.func54,Tryz.ntmps54
  go_wp2_with fail
  go_ret2
  exact⟨by rw [HZ2.out];rfl,Below.refl _ _⟩
 have HZ2:=Lib.hid (HZ.out.trans (if_neg (by omega)))
 have h1':(zs.length:Int)≤64:=by omega
 obtain⟨k,hk⟩:∃k:Nat,(zs.length-1)/3=k:=⟨_,rfl⟩
 obtain⟨q,hq⟩:∃q:Nat,zs.length-k=q:=⟨_,rfl⟩
 obtain⟨m,hm⟩:∃m:Nat,q-k=m:=⟨_,rfl⟩
 obtain⟨r,hr⟩:∃r:Nat,m-1=r:=⟨_,rfl⟩
 have e1:((zs.length:Int)-1)/3=(k:Int):=by omega
 have e2:(zs.length:Int)-(k:Int)=(q:Int):=by omega
 have e3:(m:Int)-1=(r:Int):=by omega
 have hkr:k+r=zs.length-1-k:=by omega
 have HM:=Lib.hid (show midOf zs=((srt zs).getD k 0+(srt zs).getD (k+r) 0)/2 by unfold midOf;rw [hk,hkr])
 have X1:=Lib.hid (HO.out _ (srt_mem (l:=zs) (k:=k) (by omega)))
 have X2:=Lib.hid (HO.out _ (srt_mem (l:=zs) (k:=k+r) (by omega)))
 have XN:=Lib.hid (show k<zs.length∧k+r<zs.length by omega)
 have a1:(0:Int)≤(k:Int):=by omega
 have a2:(k:Int)≤(q:Int):=by omega
 have a3:(q:Int)≤(zs.length:Int):=by omega
 have a4:(1:Int)≤(m:Int):=by omega
 have a5:(0:Int)≤(r:Int):=by omega
 have a6:(r:Int)<(m:Int):=by omega
 have a8:(m:Int)≤64:=by omega
 have HQ:=Lib.hid hm
 have hzl:zs.length≤1000:=by omega
 have hzp:0<zs.length:=by omega
 have CS:=Lib.hid (fun w1 (hb:Below w.heap.size w w1) (Bs:Nat) (h1:Bs<w1.heap.size) (h2: w1.cell? ⟨Bs,0,none⟩=some (.slice A zs.length c))=>sorted_any A c zs hzl hzp Bs w1 h1 h2 ((HR.out.below (hb.mono hB)).more (Nat.le_trans hB hb.size)))
 clear hk hq hr hm h0 h1 HZ hkr hzl hzp
 go_enter Tryz.func54,Tryz.ntmps54
 go_wp2_with fail
 refine(So.values_any A zs.length c w).mono ?_
 rintro e w' ⟨rfl,rfl⟩
 have HB:=Lib.hid ((Below.refl w.heap.size w).alloc (Nat.le_refl _) (.cells #[.slice A zs.length c] 70))
 have C:=Lib.hid (CS.out _ HB.out w.heap.size (by simp) (by rw [(Blk.fresh w 70 #[.slice A zs.length c]).cell];rfl))
 clear CS
 go_wp2_with fail
 refine C.out.mono ?_
 rintro e w2 ⟨g,cc,rfl,hc1,hc2,hg,hcell,hb2⟩
 have HB:=Lib.hid (onward HB.out (Nat.le_refl _) hb2)
 have c1:=hcell k XN.out.1
 have c2:=hcell (k+r) XN.out.2
 have hck:¬cc=k:=by have:=XN.out.1;omega
 have a7:(q:Int)≤(cc:Int):=by omega
 clear hcell hb2 hg C
 go_upto_region 6 with fail
 rw [HQ.out]
 generalize(srt zs).getD k 0=x at*
 generalize(srt zs).getD (k+r) 0=y at*
 have CH:=Lib.hid (fun v=>half_any x y v X1.out X2.out)
 have b0:(0:Int)<(m:Int):=by omega
 have b1:0<m:=by omega
 have b2:IntKind.i64.wrap ((m:Int)-1)=(r:Int):=by rw [e3,IntKind.wrap_i64];omega
 have b3:((r:Int)).toNat=r:=by simp
 have b4:IntKind.i64.wrap (r:Int)=(r:Int):=by rw [IntKind.wrap_i64];omega
 go_quiet (first|(go_at_call 77;exact Calls.quiet_of_same ((CH.out _).mono fun _ _ h=>⟨h.1,h.2.symm⟩)))
 go_wp2_with fail
 go_ret2
 exact⟨by rw [HZ2.out,HM.out];rfl,below_drewN HB.out _⟩
end Md
namespace Mem
open Go.RowKit Rws
theorem Rd.keep_lo {w w':World} {B size n lo:Nat} {A:Option Addr} {xs:List Value} (h:Rd w B size A n xs) (hlo:∀a,A=some a→lo≤a.block) (hk:∀b o,lo≤b→ w'.cell? ⟨b,o,none⟩= w.cell? ⟨b,o,none⟩):Rd w' B size A n xs:=
 ⟨h.1,fun hn=>by
  obtain⟨b,o,e,hb,hc⟩:=h.2 hn
  exact⟨b,o,e,hb,fun j u hu=>(hk b (o+j) (hlo _ e)).trans (hc j u hu)⟩⟩
theorem Rd.setRow_lo {w:World} {B size n lo:Nat} {A:Option Addr} {xs:List Value} (h:Rd w B size A n xs) (hlo:∀a,A=some a→lo≤a.block) {g:Nat} (hg:g<lo) (R:Array Value):Rd (w.setRow g R) B size A n xs:=
 h.keep_lo hlo fun b o hb=>cell_setRow_other w g R ⟨b,o,none⟩ (by show b≠g;omega)
theorem Rd.setCell_lo {w:World} {B size n lo:Nat} {A:Option Addr} {xs:List Value} (h:Rd w B size A n xs) (hlo:∀a,A=some a→lo≤a.block) {p:Addr} (hg:p.block<lo) (u:Value):Rd (w.setCell p u) B size A n xs:=
 h.keep_lo hlo fun b o hb=>World.cell?_setCell_other _ p ⟨b,o,none⟩ _ (by rintro rfl;have:b<lo:=hg;omega)
theorem Rd.setCells_lo {B size n lo:Nat} {A:Option Addr} {xs:List Value} (hlo:∀a,A=some a→lo≤a.block) {g:Nat} (hg:g<lo):∀(vs:List Value) (o:Nat) {w:World},Rd w B size A n xs→Rd (w.setCells g o vs) B size A n xs
 |[],_,_,h=>h
 |v::r,o,w,h=>by
  rw [World.setCells]
  exact Rd.setCells_lo hlo hg r (o+1) (h.setCell_lo hlo (p:=⟨g,o,none⟩) hg v)
end Mem
namespace Nd
open Go.RowKit Mem Rws
theorem exec_load_mid {P:Program} {op:Oper} {a:Act} {w:World} (ty:TypeId) (x:Operand) (ho:op.op=.load ty x)
  (b off m:Nat) (hx:a.eval x=.pointer (some ⟨b,off,none⟩)) (g:Nat→Value) (d:TypeDesc) (hc:w.rangeAt b off ((List.range m).map g))
  (hu:P.underlying ty=some d) (hd:d.isRow=true) (hi:(P.info? ty).map (·.size)=some m):(execOp a.eval op).run P w=.ok (.value (.agg (row m g))) w:=by
 unfold execOp
 simp only [ho,hx,Instr.loadAt,Instr.sureAddr,Sem.run_bind,Sem.run_pure,Result.andThen_ok,run_loadVar_mid w b off ty _ d hc hu hd (by rw [hi];simp)]
 rfl
end Nd
namespace Nd
open Go.RowKit Mem Rws Flat Md
theorem run_index_in (I:Nat→Bool) (k:Nat) (hk:k<4) (w:World):(Instr.index 29 (.agg (row 4 fun i=>.bool (I i))) (.int .i64 (k:Int))).run Tryz.prog w=.ok (.bool (I k)) w:=by
 show(Instr.index 29 (.agg #[.bool (I 0),.bool (I 1),.bool (I 2),.bool (I 3)]) (.int .i64 (k:Int))).run Tryz.prog w=.ok (.bool (I k)) w
 obtain rfl|rfl|rfl|rfl:k=0∨k=1∨k=2∨k=3:=by omega
 all_goals kernel_rfl
theorem cell_int {f:Nat→Value} (hf:∀i,i<73→okT (nodeT i) (f i)) (i:Nat) (hi:i<73) (e:nodeT i=true):f i=.int .i64 (iv (f i)):=iv_of (by have h:=hf i hi;rw [e]at h;exact h)
def agZ (f:Nat→Value) (s a:Nat):Int:=iv (f (55+(s*3+a)))
def fuseL (I:Nat→Bool) (z:Nat→Int):Nat→List Int
 |0=>[]
 |k+1=>if I k then fuseL I z k++[z k]else fuseL I z k
theorem fuse_len (I:Nat→Bool) (z:Nat→Int):∀k,(fuseL I z k).length≤k
 |0=>Nat.le_refl _
 |k+1=>by
  have:=fuse_len I z k
  unfold fuseL
  split
  · rw [List.length_append];simp;omega
  · omega
theorem fuse_mem {I:Nat→Bool} {z:Nat→Int}:∀ {k:Nat} {x:Int},x∈fuseL I z k→∃j,j<k∧I j=true∧x=z j
 |0,x,h=>by cases h
 |k+1,x,h=>by
  unfold fuseL at h
  split at h
  ·
   rename_i hI
   rcases List.mem_append.1 h with h|h
   · obtain⟨j,hj,e⟩:=fuse_mem h;exact⟨j,by omega,e⟩
   · exact⟨k,by omega,hI,by simpa using h⟩
  · obtain⟨j,hj,e⟩:=fuse_mem h;exact⟨j,by omega,e⟩
set_option maxRecDepth 100000 in
set_option maxHeartbeats 2000000 in
theorem fuse_any (f:Nat→Value) (hf:∀i,i<73→okT (nodeT i) (f i)) (a:Nat) (ha:a<3) (hw:∀s,s<4→ -9223372036854775808≤agZ f s a∧agZ f s a≤9223372036854775807) (S:Value) (w:World):
  Calls Tryz.prog 36 #[.agg (row 74 (nodeW f S)),.int .i64 (a:Int)] w fun e w'=>e=.returned (.int .i64 (midZ (fuseL (inB f) (fun s=>agZ f s a) 4)).1)∧Below w.heap.size w w':=by
 have HF:=Lib.hid hf
 have HWF:=Lib.hid hw
 have HIX:=Lib.hid (fun k hk w=>run_index_in (inB f) k hk w)
 have H2:=Lib.hid (Blk.fresh w 39 (row 74 (nodeW f S)))
 have HB:=Lib.hid ((Below.refl w.heap.size w).alloc (Nat.le_refl _) (.cells (row 74 (nodeW f S)) 39))
 have HL4:=Lib.hid (in_load hf S)
 have HCL:=Lib.hid (fun s (hs:s<4)=>show(row 74 (nodeW f S))[55+s*3+a]?=some (.int .i64 (agZ f s a))from by
  rw [row_at (by omega)]
  unfold nodeW agZ
  rw [if_neg (by omega),Nat.add_assoc,←cell_int hf (55+(s*3+a)) (by omega) (by unfold nodeT;simp;omega)])
 have a0:(0:Int)≤(a:Int):=by omega
 have a3:(a:Int)<3:=by omega
 obtain⟨I,hI⟩:∃I,inB f=I:=⟨_,rfl⟩
 obtain⟨z,hz⟩:∃z,(fun s=>agZ f s a)=z:=⟨_,rfl⟩
 have HCL:=Lib.hid (fun s (hs:s<4)=>show(row 74 (nodeW f S))[55+s*3+a]?=some (.int .i64 (z s))from by rw [←hz];exact HCL.out s hs)
 have HWF:=Lib.hid (fun s (hs:s<4)=>show-9223372036854775808≤z s∧z s≤9223372036854775807 from by rw [←hz];exact HWF.out s hs)
 rw [hI]at HIX HL4 ⊢
 rw [hz]
 clear hz
 clear hI
 obtain⟨R,hR⟩:∃R,row 74 (nodeW f S)=R:=⟨_,rfl⟩
 have HR:=Lib.hid hR
 rw [hR]at H2 HB HCL ⊢
 clear hR hf hw ha
 go_enter Tryz.func36,Tryz.ntmps36
 go_upto_region 2 with fail
 have hsz:(w.alloc (.cells R 39)).heap.size=w.heap.size+1:=by simp
 have HSZ:=Lib.hid hsz
 clear hsz
 generalize(w.alloc (.cells R 39))=W at*
 go_wp2_with(rw [←HR.out]at H2;refine wpList_mid (by rfl) 29 _ rfl w.heap.size 27 4 rfl H2.out (by omega) _ Tryz.underlying29 rfl (by kernel_rfl) ?_;rw [HL4.out];rw [HR.out]at H2)
 go_loopw [5,13] (fun sv si wr=>∃(k:Nat) (A:Option Addr) (c:Nat),k≤4∧si=.int .i64 k∧sv=.slice A (fuseL I z k).length c∧wr.ownsRow W.heap.size 3 1 (.slice A (fuseL I z k).length c) (fuseL I z k).length (Ms.intsV (fuseL I z k))∧Below W.heap.size W wr) (fun _ si _=>4-(intOf si).toNat)
 case atStart=>exact⟨0,none,0,by omega,rfl,rfl,World.ownsRow_nil _ _ _ _,Below.refl _ _⟩
 case round=>
  obtain⟨k,A,c,hk,rfl,rfl,hown,hbel⟩:=hrel
  have HO:=Lib.hid hown
  have HX:=Lib.hid hbel
  have hsz:=hbel.size
  clear hown hbel
  have hlen:=fuse_len I z k
  by_cases hlt:k<4
  ·
   have hx:=HIX.out k hlt
   have hc2:=(H2.out.below HX.out (by rw [HSZ.out];omega)).cell (55+k*3+a)
   rw [HCL.out k hlt]at hc2
   have k0:(0:Int)≤(k:Int):=by omega
   have k4:(k:Int)<4:=by omega
   have HST:=Lib.hid (show fuseL I z (k+1)=if I k then fuseL I z k++[z k]else fuseL I z k from rfl)
   have HKL:=Lib.hid hlt
   clear hlt
   obtain⟨l,hl⟩:∃l,fuseL I z k=l:=⟨_,rfl⟩
   rw [hl]at HO HST hlen ⊢
   clear hl
   generalize z k=x at*
   cases hi:I k
   ·
    rw [hi]at hx HST
    have HS2:=Lib.hid (HST.out.trans (if_neg (by simp)))
    clear hi HST
    go_wp2_with fail
    exact⟨⟨k+1,A,c,by have:=HKL.out;omega,by go_num,by rw [HS2.out],by rw [HS2.out];exact HO.out,HX.out⟩,by have:=HKL.out;simp [intOf];omega⟩
   ·
    rw [hi]at hx HST
    have HS2:=Lib.hid (HST.out.trans (if_pos rfl))
    clear hi HST
    have HV2:=Lib.hid (ownsRow_below HO.out ((Below.refl wr.heap.size wr).alloc (Nat.le_refl _) (.cells #[.int .i64 x] 3)))
    have HX2:=Lib.hid (HX.out.alloc hsz (.cells #[.int .i64 x] 3))
    have HS:=Lib.hid (Fc.rd_one wr (.int .i64 x) 3)
    go_wp2_with(at_builtin;go_loud (refine wpList_append_rd _ rfl (.tmp 18) (.tmp 25) 70 rfl (base:=W.heap.size) Ms.elemInts rfl HV2.out rfl (fun h=>by cases h) HS.out (by simp [Value.oneCell']) (by unfold maxLen;omega) (by omega) (by simp;omega) ?_);intro A9 c9 w5 hA9 hown2 hg2;have HO5:=Lib.hid hown2;have HX5:=Lib.hid (HX2.out.grown hg2 (by have:=hg2.size;simp at*;omega) (fun g e=>(HV2.out.lt g e).1));clear hown2 hg2)
    exact⟨⟨k+1,A9,c9,by have:=HKL.out;omega,by go_num,by rw [HS2.out,List.length_append];rfl,by rw [HS2.out,List.length_append,show Ms.intsV (l++[x])=Ms.intsV l++[.int .i64 x]by simp [Ms.intsV]];exact HO5.out,HX5.out⟩,by have:=HKL.out;simp [intOf];omega⟩
  ·
   obtain rfl:k=4:=by omega
   rw [show((4:Nat):Int)=4 from rfl]
   have C:=Lib.hid (middle_any A c (fuseL I z 4) wr.heap.size wr (Nat.le_refl _) (by omega) (fun x hx=>by
    obtain⟨j,hj,_,rfl⟩:=fuse_mem hx
    exact HWF.out j hj) (Rd.of_own HO.out))
   obtain⟨m,hm⟩:∃m,midZ (fuseL I z 4)=m:=⟨_,rfl⟩
   rw [hm]at C
   have HM:=Lib.hid hm
   obtain⟨l,hl⟩:∃l,(fuseL I z 4).length=l:=⟨_,rfl⟩
   rw [hl]at C ⊢
   clear hm hl hlt hlen
   go_wp2_with fail
   refine C.out.mono ?_
   rintro e w5 ⟨rfl,hb⟩
   have HB:=Lib.hid (onward (HB.out.trans (HX.out.mono HB.out.size)) (Nat.le_refl _) hb)
   clear hb C
   go_wp2_with fail
   go_ret
   exact⟨by rw [HM.out];rfl,HB.out⟩
end Nd
namespace BigW
open Go.RowKit Mem BigLaw
def in64 (X:Int):Bool:=decide (-9223372036854775808≤X∧X≤9223372036854775807)
end BigW
namespace BigW
open Go.RowKit Mem BigLaw
def stop (X:Int):Int×Bool:=if in64 X then(X,false)else if 0<X then(9223372036854775807,true)else(-9223372036854775808,true)
end BigW
namespace BigW
open Go.RowKit Mem BigLaw
theorem stop_in {X s:Int} (h1: -9223372036854775808≤X) (h2:X≤9223372036854775807) (h:X=s):stop X=(s,false):=by
 subst h;unfold stop in64;rw [if_pos (decide_eq_true ⟨h1,h2⟩)]
theorem stop_hi {X:Int} (h:9223372036854775807<X):stop X=(9223372036854775807,true):=by
 unfold stop in64;rw [if_neg (by rw [decide_eq_true_eq];omega),if_pos (by omega)]
theorem stop_lo {X:Int} (h:X< -9223372036854775808):stop X=(-9223372036854775808,true):=by
 unfold stop in64;rw [if_neg (by rw [decide_eq_true_eq];omega),if_neg (by omega)]
theorem three (a:Int):(a<0∧¬0≤a)∨(0≤a∧a≤0)∨(0<a∧¬a≤0):=by omega
theorem fixAdd_any (a b:Int) (w:World) (ha: -9223372036854775808≤a∧a≤9223372036854775807) (hb: -9223372036854775808≤b∧b≤9223372036854775807):
  Calls Tryz.prog 102 #[.int .i64 a,.int .i64 b] w fun e w'=>e=.returned (.tuple #[.int .i64 (stop (a+b)).1,.bool (stop (a+b)).2])∧w'=w:=by
 have HA:=Lib.hid ha
 have HB:=Lib.hid hb
 obtain⟨s,hs⟩:∃s,wrap64 (a+b)=s:=⟨_,rfl⟩
 have HS:=Lib.hid (show s=(a+b+9223372036854775808)%18446744073709551616-9223372036854775808 by rw [←hs];unfold wrap64;omega)
 clear ha hb
 rcases three a with⟨h1,h1'⟩|⟨h1,h1'⟩|⟨h1,h1'⟩<;>rcases three b with⟨h2,h2'⟩|⟨h2,h2'⟩|⟨h2,h2'⟩<;>rcases three s with⟨h3,h3'⟩|⟨h3,h3'⟩|⟨h3,h3'⟩
 all_goals
  go_enter Tryz.func102,Tryz.ntmps102
  go_wp2_with fail
  go_ret2
  refine⟨?_,rfl⟩
  have:=HA.out
  have:=HB.out
  have:=HS.out
  first
   |(rw [stop_in (s:=s) (by omega) (by omega) (by omega)];rfl)
   |(rw [stop_in (s:=a+b) (by omega) (by omega) (by omega)];rfl)
   |(rw [stop_in (s:=a) (by omega) (by omega) (by omega)];rfl)
   |(rw [stop_in (s:=b) (by omega) (by omega) (by omega)];rfl)
   |(rw [stop_in (s:=0) (by omega) (by omega) (by omega)];rfl)
   |(rw [stop_hi (by omega)];rfl)
   |(rw [stop_lo (by omega)];rfl)
   |(exfalso;omega)
theorem fixSub_any (a b:Int) (w:World) (ha: -9223372036854775808≤a∧a≤9223372036854775807) (hb: -9223372036854775808≤b∧b≤9223372036854775807):
  Calls Tryz.prog 101 #[.int .i64 a,.int .i64 b] w fun e w'=>e=.returned (.tuple #[.int .i64 (stop (a-b)).1,.bool (stop (a-b)).2])∧w'=w:=by
 have HA:=Lib.hid ha
 have HB:=Lib.hid hb
 obtain⟨s,hs⟩:∃s,wrap64 (a-b)=s:=⟨_,rfl⟩
 have HS:=Lib.hid (show s=(a-b+9223372036854775808)%18446744073709551616-9223372036854775808 by rw [←hs];unfold wrap64;omega)
 clear ha hb
 rcases three a with⟨h1,h1'⟩|⟨h1,h1'⟩|⟨h1,h1'⟩<;>rcases three b with⟨h2,h2'⟩|⟨h2,h2'⟩|⟨h2,h2'⟩<;>rcases three s with⟨h3,h3'⟩|⟨h3,h3'⟩|⟨h3,h3'⟩
 all_goals
  go_enter Tryz.func101,Tryz.ntmps101
  go_wp2_with fail
  go_ret2
  refine⟨?_,rfl⟩
  have:=HA.out
  have:=HB.out
  have:=HS.out
  first
   |(rw [stop_in (s:=s) (by omega) (by omega) (by omega)];rfl)
   |(rw [stop_in (s:=a-b) (by omega) (by omega) (by omega)];rfl)
   |(rw [stop_in (s:=a) (by omega) (by omega) (by omega)];rfl)
   |(rw [stop_in (s:= -b) (by omega) (by omega) (by omega)];rfl)
   |(rw [stop_in (s:=0) (by omega) (by omega) (by omega)];rfl)
   |(rw [stop_hi (by omega)];rfl)
   |(rw [stop_lo (by omega)];rfl)
   |(exfalso;omega)
end BigW
namespace BigW
open Go.RowKit Mem BigLaw
theorem size_any (a:Int) (w:World) (ha: -9223372036854775808≤a∧a≤9223372036854775807):
  Calls Tryz.prog 11 #[.int .i64 a] w fun e w'=>e=.returned (.int .u64 (a.natAbs:Nat))∧w=w':=by
 have HA:=Lib.hid ha
 obtain⟨m,hm⟩:∃m:Nat,a.natAbs=m:=⟨_,rfl⟩
 have HM:=Lib.hid hm
 rw [hm]
 by_cases h:a<0
 ·
  have e2:IntKind.u64.wrap (-IntKind.u64.wrap a)=(m:Int):=by rw [u64wrap,u64wrap];omega
  clear hm ha
  go_enter Tryz.func11,Tryz.ntmps11
  go_wp2_with fail
  go_ret
  exact⟨rfl,rfl⟩
 ·
  obtain rfl:a=(m:Int):=by omega
  clear hm HM
  go_enter Tryz.func11,Tryz.ntmps11
  go_wp2_with fail
  go_ret
  exact⟨rfl,rfl⟩
theorem maskN (a:Nat) (ha:a<18446744073709551616):bits .and .u64 (a:Int) 4294967295=((a%4294967296:Nat):Int):=by
 have h:=bits_and_u64_nat a 4294967295 ha (by omega)
 have e:a&&& 4294967295=a%4294967296:=Nat.and_two_pow_sub_one_eq_mod a 32
 rw [e]at h
 exact h
theorem divN (a:Nat):(a:Int)/4294967296=((a/4294967296:Nat):Int):=by omega
theorem mulN (a b:Nat):(a:Int)*(b:Int)=((a*b:Nat):Int):=(Int.natCast_mul a b).symm
theorem addN (a b:Nat):(a:Int)+(b:Int)=((a+b:Nat):Int):=(Int.natCast_add a b).symm
theorem wrapN (a:Nat) (ha:a<18446744073709551616):IntKind.u64.wrap (a:Int)=(a:Int):=by rw [IntKind.wrap_u64];omega
theorem wrapM (a:Nat):IntKind.u64.wrap (a:Int)=((a%18446744073709551616:Nat):Int):=by rw [IntKind.wrap_u64];omega
end BigW
namespace BigW
open Go.RowKit Mem BigLaw
def wideV (neg:Bool) (hi lo:Nat):Value:=.agg #[.bool neg,.int .u64 (hi:Int),.int .u64 (lo:Int)]
def wideN (hi lo:Nat):Nat:=hi*18446744073709551616+lo
def sgd (neg:Bool) (n:Nat):Int:=if neg then-(n:Int)else(n:Int)
def Bounded (w w':World) (X:Int) (e:Ending):Prop:=e=.returned (.tuple #[.int .i64 (stop X).1,.bool (stop X).2])∧Below w.heap.size w w'
theorem bound_any (neg:Bool) (hi lo:Nat) (w:World) (hh:hi<18446744073709551616) (hl:lo<18446744073709551616):
  Calls Tryz.prog 125 #[wideV neg hi lo] w fun e w'=>Bounded w w' (sgd neg (wideN hi lo)) e:=by
 unfold wideV
 have hbel:Below w.heap.size w (w.alloc (.cells #[.bool neg,.int .u64 (hi:Int),.int .u64 (lo:Int)] 196)):=(Below.refl _ _).alloc (Nat.le_refl _) _
 have HB:=Lib.hid hbel
 clear hbel
 obtain⟨X,hX⟩:∃X,sgd neg (wideN hi lo)=X:=⟨_,rfl⟩
 rw [hX]
 have HX:=Lib.hid (show X=if neg then-((hi*18446744073709551616+lo:Nat):Int)else((hi*18446744073709551616+lo:Nat):Int)from hX.symm)
 clear hX
 cases neg with
 |true=>
  by_cases h1:0<hi
  ·
   have HS:=Lib.hid (show stop X=(-9223372036854775808,true)from stop_lo (by have:=HX.out;rw [if_pos rfl]at this;omega))
   have h1':(0:Int)<(hi:Int):=by omega
   go_enter Tryz.func125,Tryz.ntmps125
   go_wp2_with fail
   go_ret2
   exact⟨by rw [HS.out];rfl,HB.out⟩
  ·
   obtain rfl:hi=0:=by omega
   by_cases h2:9223372036854775808<lo
   ·
    have HS:=Lib.hid (show stop X=(-9223372036854775808,true)from stop_lo (by have:=HX.out;rw [if_pos rfl]at this;omega))
    have h2':(9223372036854775808:Int)<(lo:Int):=by omega
    clear h1 h2
    go_enter Tryz.func125,Tryz.ntmps125
    go_wp2_with fail
    go_ret2
    exact⟨by rw [HS.out];rfl,HB.out⟩
   ·
    have HS:=Lib.hid (show stop X=(-(lo:Int),false)from by have:=HX.out;rw [if_pos rfl]at this;exact stop_in (by omega) (by omega) (by omega))
    have h2':¬(9223372036854775808:Int)<(lo:Int):=by omega
    have h3:IntKind.i64.wrap (IntKind.u64.wrap (-(lo:Int)))= -(lo:Int):=by rw [u64wrap,IntKind.wrap_i64];omega
    clear h1 h2
    go_enter Tryz.func125,Tryz.ntmps125
    go_wp2_with fail
    go_ret2
    exact⟨by rw [HS.out];rfl,HB.out⟩
 |false=>
  by_cases h1:0<hi
  ·
   have HS:=Lib.hid (show stop X=(9223372036854775807,true)from stop_hi (by have:=HX.out;rw [if_neg (by simp)]at this;omega))
   have h1':(0:Int)<(hi:Int):=by omega
   go_enter Tryz.func125,Tryz.ntmps125
   go_wp2_with fail
   go_ret2
   exact⟨by rw [HS.out];rfl,HB.out⟩
  ·
   obtain rfl:hi=0:=by omega
   by_cases h2:9223372036854775807<lo
   ·
    have HS:=Lib.hid (show stop X=(9223372036854775807,true)from stop_hi (by have:=HX.out;rw [if_neg (by simp)]at this;omega))
    have h2':(9223372036854775807:Int)<(lo:Int):=by omega
    clear h1 h2
    go_enter Tryz.func125,Tryz.ntmps125
    go_wp2_with fail
    go_ret2
    exact⟨by rw [HS.out];rfl,HB.out⟩
   ·
    have HS:=Lib.hid (show stop X=((lo:Int),false)from by have:=HX.out;rw [if_neg (by simp)]at this;exact stop_in (by omega) (by omega) (by omega))
    have h2':¬(9223372036854775807:Int)<(lo:Int):=by omega
    clear h1 h2
    go_enter Tryz.func125,Tryz.ntmps125
    go_wp2_with fail
    go_ret2
    exact⟨by rw [HS.out];rfl,HB.out⟩
set_option maxHeartbeats 1000000 in
theorem mul64_any (x y:Nat) (hx:x<18446744073709551616) (hy:y<18446744073709551616) (w:World):
  Calls Tryz.prog 123 #[.int .u64 x,.int .u64 y] w fun e w'=>e=.returned (.tuple #[.int .u64 ((x*y/18446744073709551616:Nat):Int),.int .u64 ((x*y%18446744073709551616:Nat):Int)])∧w=w':=by
 obtain⟨bd,bt,bw,hhi⟩:=Lib.mul64_hi x y hx hy
 have ba:=Lib.half_mul_le (a:=x/4294967296) (b:=y/4294967296) (by omega) (by omega)
 have bb:=Lib.half_mul_le (a:=x/4294967296) (b:=y%4294967296) (by omega) (by omega)
 have bc:=Lib.half_mul_le (a:=x%4294967296) (b:=y/4294967296) (by omega) (by omega)
 have ba':x/4294967296*(y/4294967296)<18446744073709551616:=by omega
 have bb':x/4294967296*(y%4294967296)<18446744073709551616:=by omega
 have bc':x%4294967296*(y/4294967296)<18446744073709551616:=by omega
 have bh1:x/4294967296*(y/4294967296)+(x/4294967296*(y%4294967296)+x%4294967296*(y%4294967296)/4294967296)/4294967296<18446744073709551616:=by omega
 have bh:x/4294967296*(y/4294967296)+(x/4294967296*(y%4294967296)+x%4294967296*(y%4294967296)/4294967296)/4294967296+((x/4294967296*(y%4294967296)+x%4294967296*(y%4294967296)/4294967296)%4294967296+x%4294967296*(y/4294967296))/4294967296<18446744073709551616:=by omega
 go_enter Tryz.func123,Tryz.ntmps123
 go_wp2
 simp only [maskN x hx,maskN y hy,divN,mulN,addN,wrapN _ bd,wrapN _ bb',wrapN _ bt,maskN _ bt,wrapN _ bc',wrapN _ bw,wrapN _ ba',wrapN _ bh1,wrapN _ bh,wrapM (x*y)]
 rw [hhi]
 go_ret2
 exact⟨rfl,rfl⟩
theorem add64_run (x y:Nat) (w:World):
  (callFunc 124 #[.int .u64 x,.int .u64 y,.int .u64 0]).run Tryz.prog w=
   .ok (.value (.tuple #[.int .u64 (((x+y)%18446744073709551616:Nat):Int),.int .u64 (((x+y)/18446744073709551616:Nat):Int)])) w:=by
 rw [run_callFunc_extern Tryz.func124 (by kernel_rfl) (by kernel_rfl) (by kernel_rfl) (e:=add64Entry) (by kernel_rfl),run_add64 x y 0 (by omega) (by omega) (by omega) (by omega)]
 simp only [Result.andThen]
 congr 5<;>omega
theorem add64_at (x n:Nat) (y:Int) (hy:y=(n:Int)) (w:World):
  (callFunc 124 #[.int .u64 x,.int .u64 y,.int .u64 0]).run Tryz.prog w=
   .ok (.value (.tuple #[.int .u64 (((x+n)%18446744073709551616:Nat):Int),.int .u64 (((x+n)/18446744073709551616:Nat):Int)])) w:=by
 subst hy;exact add64_run x n w
end BigW
namespace BigW
open Go.RowKit Mem BigLaw
def fmul (a b:Int):Int×Bool:=stop ((a*b+2147483648)/4294967296)
theorem mul_bd {a b:Int} (ha: -9223372036854775808≤a∧a≤9223372036854775807) (hb: -9223372036854775808≤b∧b≤9223372036854775807):a.natAbs*b.natAbs≤85070591730234615865843651857942052864:=
 Nat.mul_le_mul (show a.natAbs≤9223372036854775808 by omega) (show b.natAbs≤9223372036854775808 by omega)
theorem mul_neg1 {a b:Int} (h:(a<0∧0≤b)∨(0≤a∧b<0)):a*b= -((a.natAbs*b.natAbs:Nat):Int):=by
 rw [Int.natCast_mul]
 rcases h with⟨h1,h2⟩|⟨h1,h2⟩
 · rw [show(a.natAbs:Int)= -a by omega,show(b.natAbs:Int)=b by omega,Int.neg_mul,Int.neg_neg]
 · rw [show(a.natAbs:Int)=a by omega,show(b.natAbs:Int)= -b by omega,Int.mul_neg,Int.neg_neg]
theorem mul_pos1 {a b:Int} (h:(a<0∧b<0)∨(0≤a∧0≤b)):a*b=((a.natAbs*b.natAbs:Nat):Int):=by
 rw [Int.natCast_mul]
 rcases h with⟨h1,h2⟩|⟨h1,h2⟩
 · rw [show(a.natAbs:Int)= -a by omega,show(b.natAbs:Int)= -b by omega,Int.neg_mul_neg]
 · rw [show(a.natAbs:Int)=a by omega,show(b.natAbs:Int)=b by omega]
theorem or_halves (x y:Nat) (hx:x<18446744073709551616) (hy:y<4294967296):bits .or .u64 ((x:Int)/4294967296) ((y:Int)*4294967296)=((y*4294967296+x/4294967296:Nat):Int):=by
 have h:=or64 (x/4294967296) y (by omega) hy
 have e:((x/4294967296:Nat):Int)=(x:Int)/4294967296:=by omega
 rw [e]at h
 rw [h]
 omega
theorem mul_tail (P h:Nat) (hP:P≤85070591730234615865843651857942052864) (hh:h≤2147483648):
  wideN ((P/18446744073709551616+(P%18446744073709551616+h)/18446744073709551616)/4294967296)
   ((P/18446744073709551616+(P%18446744073709551616+h)/18446744073709551616)%4294967296*4294967296+(P%18446744073709551616+h)%18446744073709551616/4294967296)=(P+h)/4294967296:=by
 unfold wideN
 omega
set_option maxHeartbeats 8000000 in
theorem fixMul_any (a b:Int) (w:World) (ha: -9223372036854775808≤a∧a≤9223372036854775807) (hb: -9223372036854775808≤b∧b≤9223372036854775807):
  Calls Tryz.prog 103 #[.int .i64 a,.int .i64 b] w fun e w'=>e=.returned (.tuple #[.int .i64 (fmul a b).1,.bool (fmul a b).2])∧Below w.heap.size w w':=by
 have HA:=Lib.hid ha
 have HB:=Lib.hid hb
 have hbd:=mul_bd ha hb
 have HNA:=Lib.hid (show a.natAbs<18446744073709551616 by omega)
 have HNB:=Lib.hid (show b.natAbs<18446744073709551616 by omega)
 have HBD:=Lib.hid hbd
 clear ha hb
 rcases(by omega:((a<0∧b<0)∨(¬a<0∧¬b<0))∨((a<0∧¬b<0)∨(¬a<0∧b<0)))with h|h
 ·
  have HE:=Lib.hid (show sgd false ((a.natAbs*b.natAbs+2147483648)/4294967296)=(a*b+2147483648)/4294967296 by
   rw [mul_pos1 (by omega)];show(((a.natAbs*b.natAbs+2147483648)/4294967296:Nat):Int)=_;omega)
  have HT:=Lib.hid (mul_tail (a.natAbs*b.natAbs) 2147483648 HBD.out (by omega))
  clear hbd
  rcases h with⟨h1,h2⟩|⟨h1,h2⟩
  all_goals
   go_enter Tryz.func103,Tryz.ntmps103
   go_wp2_with fail
   refine(size_any a _ HA.out).mono ?_
   rintro e w1 ⟨rfl,rfl⟩
   go_wp2_with fail
   refine(size_any b _ HB.out).mono ?_
   rintro e w1 ⟨rfl,rfl⟩
   go_wp2_with fail
   refine(mul64_any a.natAbs b.natAbs HNA.out HNB.out _).mono ?_
   rintro e w1 ⟨rfl,rfl⟩
   generalize a.natAbs*b.natAbs=P at HBD HE HT ⊢
   have hH0:P/18446744073709551616≤4611686018427387904:=by have:=HBD.out;omega
   have hL0:P%18446744073709551616<18446744073709551616:=by omega
   generalize P/18446744073709551616=H0 at hH0 HT ⊢
   generalize P%18446744073709551616=L0 at hL0 HT ⊢
   have HAdd:=fun w=>add64_at L0 2147483648 2147483648 (by omega) w
   have hC:(L0+2147483648)/18446744073709551616≤1:=by omega
   have hL1:(L0+2147483648)%18446744073709551616<18446744073709551616:=by omega
   generalize(L0+2147483648)/18446744073709551616=C at hC HT HAdd
   generalize(L0+2147483648)%18446744073709551616=L1 at hL1 HT HAdd
   have hM:(H0+C)%4294967296<4294967296:=by omega
   have hw:IntKind.u64.wrap (((H0:Int)+(C:Int))*4294967296)=(((H0+C)%4294967296:Nat):Int)*4294967296:=by rw [u64wrap];omega
   have hor:=or_halves L1 _ hL1 hM
   generalize(H0+C)%4294967296=M at hM hw hor HT
   have hL2:M*4294967296+L1/4294967296<18446744073709551616:=by omega
   have hH2:(H0+C)/4294967296<18446744073709551616:=by omega
   generalize hq:M*4294967296+L1/4294967296=L2 at hL2 hor HT
   have hq2:((H0:Int)+(C:Int))/4294967296=(((H0+C)/4294967296:Nat):Int):=by omega
   generalize(H0+C)/4294967296=H2 at hH2 hq2 HT
   clear hq
   rw [←HT.out]at HE
   go_wp2_with fail
   refine(bound_any _ H2 L2 _ hH2 hL2).mono ?_
   rintro e w1 ⟨rfl,hb⟩
   rw [HE.out]
   have HF:=Lib.hid (show stop ((a*b+2147483648)/4294967296)=fmul a b from rfl)
   rw [HF.out]
   have HBL:=Lib.hid (onward ((Below.refl w.heap.size w).alloc (Nat.le_refl _) _) (Nat.le_refl _) hb)
   generalize hr:fmul a b=r
   have HR:=Lib.hid hr
   clear HE HT hb hr
   go_wp2_with fail
   go_ret2
   exact⟨by rw [HR.out];rfl,HBL.out⟩
 ·
  have HE:=Lib.hid (show sgd true ((a.natAbs*b.natAbs+2147483647)/4294967296)=(a*b+2147483648)/4294967296 by
   rw [mul_neg1 (by omega)];unfold sgd;rw [if_pos rfl];omega)
  have HT:=Lib.hid (mul_tail (a.natAbs*b.natAbs) 2147483647 HBD.out (by omega))
  clear hbd
  rcases h with⟨h1,h2⟩|⟨h1,h2⟩
  all_goals
   go_enter Tryz.func103,Tryz.ntmps103
   go_wp2_with fail
   refine(size_any a _ HA.out).mono ?_
   rintro e w1 ⟨rfl,rfl⟩
   go_wp2_with fail
   refine(size_any b _ HB.out).mono ?_
   rintro e w1 ⟨rfl,rfl⟩
   go_wp2_with fail
   refine(mul64_any a.natAbs b.natAbs HNA.out HNB.out _).mono ?_
   rintro e w1 ⟨rfl,rfl⟩
   generalize a.natAbs*b.natAbs=P at HBD HE HT ⊢
   have hH0:P/18446744073709551616≤4611686018427387904:=by have:=HBD.out;omega
   have hL0:P%18446744073709551616<18446744073709551616:=by omega
   generalize P/18446744073709551616=H0 at hH0 HT ⊢
   generalize P%18446744073709551616=L0 at hL0 HT ⊢
   go_upto_region 3 with fail
   go_cut [7] (fun s7 wx=>∃hf:Nat,s7=.int .u64 (hf:Int)∧Hid (hf=2147483648)∧wx=w.alloc (.cells #[.bool true,.int .u64 (H0:Int),.int .u64 (L0:Int)] 196))
   case first=>
    go_wp2_with fail
    go_meet
    exact⟨2147483648,rfl,Lib.hid rfl,rfl⟩
   obtain⟨hf,rfl,HHF,rfl⟩:=hcut
   have hf1:(1:Int)≤(hf:Int):=by have:=HHF.out;omega
   have hf2:(hf:Int)≤4294967296:=by have:=HHF.out;omega
   have HAdd:=fun w=>add64_at L0 2147483647 ((hf:Int)-1) (by have:=HHF.out;omega) w
   have hC:(L0+2147483647)/18446744073709551616≤1:=by omega
   have hL1:(L0+2147483647)%18446744073709551616<18446744073709551616:=by omega
   generalize(L0+2147483647)/18446744073709551616=C at hC HT HAdd
   generalize(L0+2147483647)%18446744073709551616=L1 at hL1 HT HAdd
   have hM:(H0+C)%4294967296<4294967296:=by omega
   have hw:IntKind.u64.wrap (((H0:Int)+(C:Int))*4294967296)=(((H0+C)%4294967296:Nat):Int)*4294967296:=by rw [u64wrap];omega
   have hor:=or_halves L1 _ hL1 hM
   generalize(H0+C)%4294967296=M at hM hw hor HT
   have hL2:M*4294967296+L1/4294967296<18446744073709551616:=by omega
   have hH2:(H0+C)/4294967296<18446744073709551616:=by omega
   generalize hq:M*4294967296+L1/4294967296=L2 at hL2 hor HT
   have hq2:((H0:Int)+(C:Int))/4294967296=(((H0+C)/4294967296:Nat):Int):=by omega
   generalize(H0+C)/4294967296=H2 at hH2 hq2 HT
   clear hq
   rw [←HT.out]at HE
   go_wp2_with fail
   refine(bound_any _ H2 L2 _ hH2 hL2).mono ?_
   rintro e w1 ⟨rfl,hb⟩
   rw [HE.out]
   have HF:=Lib.hid (show stop ((a*b+2147483648)/4294967296)=fmul a b from rfl)
   rw [HF.out]
   have HBL:=Lib.hid (onward ((Below.refl w.heap.size w).alloc (Nat.le_refl _) _) (Nat.le_refl _) hb)
   generalize hr:fmul a b=r
   have HR:=Lib.hid hr
   clear HE HT hb hr
   go_wp2_with fail
   go_ret2
   exact⟨by rw [HR.out];rfl,HBL.out⟩
end BigW
end Go.Proofs.YtljpoibnkkcjdaaGreatDoor
