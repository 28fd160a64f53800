import Derived.BigQuiet
import Derived.Deep.MidRow
import Derived.Deep.Slices
import Derived.Laws.CopyOwn
import Derived.Lib.Hide
import Derived.OpenShut
import Derived.ProofKit
import Derived.Test.YtljpoibnkkcjdaaGreatDoorRows
import Derived.WalkLawsBesides
import Derived.WalkSpells
set_option linter.unusedVariables false
set_option linter.unusedSimpArgs false
namespace Go.Proofs.YtljpoibnkkcjdaaGreatDoor
namespace Rg
theorem lp:(∀(t:Array Value) (l:List Deferred) (d:Tmp) (v:Value),Act.put ⟨t,l⟩ (some d) v=⟨t.setIfInBounds d v,l⟩)∧(∀(t:Array Value) (l:List Deferred) (v:Value),Act.put ⟨t,l⟩ none v=⟨t,l⟩)∧(∀(l:List Value) (i:Nat) (v:Value),l.toArray.setIfInBounds i v=(l.set i v).toArray)∧(∀(a b:Value) (l:List Value),(b::l).set 0 a=a::l)∧(∀(a b:Value) (l:List Value) (n:Nat),(b::l).set (n+1) a=b::l.set n a):=⟨fun _ _ _ _=>rfl,fun _ _ _=>rfl,fun _ _ _=>List.setIfInBounds_toArray ..,fun _ _ _=>rfl,fun _ _ _ _=>rfl⟩
end Rg
namespace Fr
open Go.ChangeShapes Go.WideShapes Go.ChangeAt Go.RowKit
section
variable {H : Type} {enc : TypeId × Value → H} {P : Program}
theorem args_kept (hl:laidOutB P=true) {W W':World} (hb:Below W.heap.size W W'):
  ∀ {ts:List TypeId} {vs:List Value} {ds:List (DataW H)} {ps:List MemPlace},(∀t∈ts,P.readableRec t=true∧t<P.types.size)→
   DataW.TrodAll enc P W 0 (fun _=>true) true ts vs ds ps→(∀x∈ps,x.block<W.heap.size)→
   DataW.TrodAll enc P W' 0 (fun b=>decide (b<W.heap.size)) true ts vs ds ps
 |[],[],[],ps,_,h,_=>h
 |t::ts,v::vs,d::ds,ps,hts,h,hlt=>by
  obtain⟨p,q,h1,h2,rfl⟩:=h
  obtain⟨a,b⟩:=hts t List.mem_cons_self
  exact⟨p,q,Below.trod hl a b h1 hb (fun x hx=>hlt x (List.mem_append_left _ hx)),args_kept hl hb (fun t ht=>hts t (List.mem_cons_of_mem _ ht)) h2 (fun x hx=>hlt x (List.mem_append_right _ hx)),rfl⟩
 |[],_::_,_,_,_,h,_=>h.elim
 |[],[],_::_,_,_,h,_=>h.elim
 |_::_,[],_,_,_,h,_=>h.elim
 |_::_,_::_,[],_,_,h,_=>h.elim
theorem post_true (hl:laidOutB P=true) {f:Func} {s:ChangeSpec} {apart fresh handsOn:Bool} {W W':World} {args:Array Value} {ds gs:List (DataW H)} {before:List MemPlace} {tb:TypeId}
  (hts:∀t∈f.params.toList,P.readableRec t=true∧t<P.types.size) (hv:s.vars=[]) (hr:f.resultTypes=#[tb]) (hb:P.underlying tb=some .bool)
  (hfn:ds.length=f.params.size→s.fn H ds={ results:=[.lit (.bool true)],args:=ds })
  (hW:DataW.Whole enc P f.params.toList s.vars apart W args.toList ds gs before) (hbel:Below W.heap.size W W'):
  s.post enc P f apart fresh handsOn false W args (.bool true) W':=by
 have hW':=hW
 obtain⟨p,q,hA,hV,hps,hfz,hnd⟩:=hW
 rw [hv]at hV
 obtain⟨rfl,rfl⟩:=trodVars_none hV
 have hlen:ds.length=f.params.size:=by
  have:∀(ts:List TypeId) (vs:List Value) (ds:List (DataW H)) (ps:List MemPlace),DataW.TrodAll enc P W 0 (fun _=>true) true ts vs ds ps→ds.length=ts.length:=by
   intro ts
   induction ts with
   |nil=>intro vs ds ps h;cases vs<;>cases ds<;>first|rfl|exact h.elim
   |cons t ts ih=>
    intro vs ds ps h
    cases vs with
    |nil=>exact h.elim
    |cons v vs=>
     cases ds with
     |nil=>exact h.elim
     |cons d ds=>obtain⟨_,_,_,h2,_⟩:=h;simp [ih _ _ _ h2]
  simpa using this _ _ _ _ hA
 have hspec:=hfn hlen
 have hlt:∀x∈before,x.block<W.heap.size:=fun x hx=>by simpa using hW'.lt x hx
 have hbp:before=p:=by simpa using hps
 subst hbp
 refine⟨ds,[],before,[],before,[],hW',?_,?_,?_,hbel.frame _,fun h=>by cases h⟩
 ·
  rw [hr,List.append_nil,hspec]
  exact trodAll_cons_mk (shut_bool hb true) trodAll_mk0
 ·
  rw [List.append_nil,hspec]
  exact args_kept hl hbel hts hA hlt
 ·
  rw [hv]
  show DataW.TrodVars enc P W' _ [] (s.fn H (ds++[])).vars []
  rw [List.append_nil,hspec]
  rfl
theorem of_walk (hl:laidOutB P=true) {k:FuncId} {f:Func} {s:ChangeSpec} {apart fresh handsOn:Bool} {W:World} {args:Array Value} {ds gs:List (DataW H)} {before:List MemPlace} {tb:TypeId}
  (hts:∀t∈f.params.toList,P.readableRec t=true∧t<P.types.size) (hv:s.vars=[]) (hr:f.resultTypes=#[tb]) (hb:P.underlying tb=some .bool)
  (hfn:ds.length=f.params.size→s.fn H ds={ results:=[.lit (.bool true)],args:=ds })
  (hW:DataW.Whole enc P f.params.toList s.vars apart W args.toList ds gs before)
  (hwalk:Calls P k args W fun e W'=>e=.returned (.bool true)∧Below W.heap.size W W'):
  Calls P k args W fun e W'=>∃v,e=.returned v∧s.post enc P f apart fresh handsOn false W args v W':=
 hwalk.mono fun _ _ ⟨he,hbel⟩=>⟨_,he,post_true hl hts hv hr hb hfn hW hbel⟩
end
theorem own:ownKnob Tryz.prog.godebug=none:=by kernel_rfl
theorem laidOut:laidOutB Tryz.prog=true:=by kernel_rfl
end Fr
namespace Mem
open Go.RowKit
def Blk (w:World) (g:Nat) (t:TypeId) (cs:Array Value):Prop:=w.heap[g]?=some (.cells cs t (0,0))
section
variable {w w' : World} {g : Nat} {t : TypeId} {cs : Array Value}
theorem Blk.lt (h:Blk w g t cs):g<w.heap.size:=by
 by_cases hl:g<w.heap.size
 · exact hl
 · unfold Blk at h;rw [Array.getElem?_eq_none (by omega)]at h;cases h
theorem Blk.cell (h:Blk w g t cs) (i:Nat): w.cell? ⟨g,i,none⟩=cs[i]?:=by
 unfold Blk at h;simp [World.cell?,h]
theorem Blk.thaw (h:Blk w g t cs) (i:Nat): w.frozen? ⟨g,i,none⟩=false:=by
 unfold Blk at h;simp [World.frozen?,h]
theorem Blk.fresh (w:World) (t:TypeId) (cs:Array Value):Blk (w.alloc (.cells cs t)) w.heap.size t cs:=by
 show(w.heap.push _)[w.heap.size]?=_;simp
theorem Blk.new (hg:g=w.heap.size):Blk (w.alloc (.cells cs t)) g t cs:=by subst hg;exact Blk.fresh w t cs
theorem Blk.drewN (h:Blk w g t cs) (n:Nat):Blk (w.drewN n) g t cs:=h
theorem Blk.drew (h:Blk w g t cs):Blk w.drew g t cs:=h
theorem Blk.alloc (h:Blk w g t cs) (o:Obj):Blk (w.alloc o) g t cs:=(Below.heap_alloc w o g h.lt).trans h
theorem Blk.set (h:Blk w g t cs) (i:Nat) (u:Value):Blk (w.setCell ⟨g,i,none⟩ u) g t (cs.setIfInBounds i u):=by
 unfold Blk at h ⊢;simp [World.setCell,Array.getElem?_modify,h]
theorem Blk.other (h:Blk w g t cs) {p:Addr} (hp:g≠p.block) (u:Value):Blk (w.setCell p u) g t cs:=(Below.heap_setCell w p u g hp).trans h
theorem Blk.below {B:Nat} (h:Blk w g t cs) (hb:Below B w w') (hg:g<B):Blk w' g t cs:=(hb.block g hg).trans h
theorem Blk.grown {row:Option Nat} (h:Blk w g t cs) (hb:w.grownBy w' row) (hg:some g≠row):Blk w' g t cs:=(hb.block g h.lt hg).trans h
theorem Blk.setRow (h:Blk w g t cs) (cs':Array Value):Blk (w.setRow g cs') g t cs':=setRow_heap w g cs cs' t (0,0) h
theorem Blk.setRow_other (h:Blk w g t cs) {g':Nat} (hg:g≠g') (cs':Array Value):Blk (w.setRow g' cs') g t cs:=(Go.setRow_other w g' g cs' hg).trans h
theorem Blk.apart {g':Nat} {t':TypeId} {cs':Array Value} (h:Blk w g t cs) (h':Blk w g' t' cs') (hne:t≠t'):g≠g':=by
 intro e;subst e;unfold Blk at h h';rw [h]at h';simp at h';exact hne h'.2
end
def Rd (w:World) (B size:Nat) (A:Option Addr) (n:Nat) (xs:List Value):Prop:=
 xs.length=n*size∧(0<n→∃b o,A=some ⟨b,o,none⟩∧b<B∧∀j u,xs[j]?=some u→ w.cell? ⟨b,o+j,none⟩=some u)
section
variable {w w' : World} {B B' size n : Nat} {A : Option Addr} {xs : List Value}
theorem Rd.nil (w:World) (B size:Nat) (A:Option Addr):Rd w B size A 0 []:=⟨by simp,fun h=>absurd h (by omega)⟩
theorem Rd.keep (h:Rd w B size A n xs) (hk:∀b o,b<B→ w'.cell? ⟨b,o,none⟩= w.cell? ⟨b,o,none⟩):Rd w' B size A n xs:=
 ⟨h.1,fun hn=>let ⟨b,o,e,hb,hc⟩:=h.2 hn;⟨b,o,e,hb,fun j u hu=>(hk b _ hb).trans (hc j u hu)⟩⟩
theorem Rd.more (h:Rd w B size A n xs) (hB:B≤B'):Rd w B' size A n xs:=
 ⟨h.1,fun hn=>let ⟨b,o,e,hb,hc⟩:=h.2 hn;⟨b,o,e,by omega,hc⟩⟩
theorem Rd.below (h:Rd w B size A n xs) (hb:Below B w w'):Rd w' B size A n xs:=h.keep fun b o hp=>hb.cell (p:=⟨b,o,none⟩) hp
theorem Rd.drewN (h:Rd w B size A n xs) (k:Nat):Rd (w.drewN k) B size A n xs:=h
theorem Rd.drew (h:Rd w B size A n xs):Rd w.drew B size A n xs:=h
theorem Rd.alloc (h:Rd w B size A n xs) (hB:B≤w.heap.size) (o:Obj):Rd (w.alloc o) B size A n xs:=
 h.keep fun b o' hp=>World.cell?_alloc_lt w o _ (show b<w.heap.size by omega)
theorem Rd.setCell (h:Rd w B size A n xs) {p:Addr} (hB:B≤p.block) (u:Value):Rd (w.setCell p u) B size A n xs:=
 h.keep fun b o hq=>World.cell?_setCell_other w p _ u (fun e=>by subst e;exact absurd hq (Nat.not_lt.2 hB))
theorem Rd.grown (h:Rd w B size A n xs) {row:Option Nat} (hg:w.grownBy w' row) (hB:B≤w.heap.size) (hr:∀g,row=some g→B≤g):Rd w' B size A n xs:=
 h.keep fun b o hp=>World.cell?_of_block (hg.block b (by omega) (fun e=>by have:=hr _ e.symm;omega))
theorem Rd.at {k:Nat} (h:Rd w B 1 A n xs) (hk:k<n):∃b o u,A=some ⟨b,o,none⟩∧b<B∧xs[k]?=some u∧ w.cell? ⟨b,o+k,none⟩=some u:=by
 obtain⟨b,o,e,hb,hc⟩:=h.2 (by omega)
 have hl:k<xs.length:=by have:=h.1;omega
 exact⟨b,o,xs[k],e,hb,List.getElem?_eq_getElem hl,hc k _ (List.getElem?_eq_getElem hl)⟩
theorem Rd.of_own {base:Nat} {e:TypeId} {c:Nat} (h:w.ownsRow base e size (.slice A n c) n xs):Rd w w.heap.size size A n xs:=by
 refine⟨h.1,fun hn=>?_⟩
 have h':=h
 obtain⟨_,⟨_,rfl⟩|⟨g,cap,cur,hv,_,hh,_⟩⟩:=h
 · omega
 ·
  have hA:A=some ⟨g,0,none⟩:=by injection hv
  subst hA
  refine⟨g,0,rfl,?_,fun j u hu=>?_⟩
  ·
   by_cases hl:g<w.heap.size
   · exact hl
   · rw [Array.getElem?_eq_none (by omega)]at hh;cases hh
  ·
   have:=h'.cells (g:=g) rfl j u hu
   have e:(⟨g,0,none⟩:Addr).add j=⟨g,0+j,none⟩:=by unfold Addr.add;split<;>simp_all
   rwa [e]at this
theorem Rd.cut (h:Rd w B size A n xs) {lo hi cap:Nat} (hl:lo≤hi) (hh:hi≤n) (hc:n≤cap):
  Rd w B size (if cap=lo then A else A.map (·.add (lo*size))) (hi-lo) ((xs.take (hi*size)).drop (lo*size)):=by
 have hlen:=h.1
 have h1:hi*size≤n*size:=Nat.mul_le_mul_right _ hh
 refine⟨by rw [List.length_drop,List.length_take,hlen,Nat.sub_mul];omega,fun hn=>?_⟩
 obtain⟨b,o,rfl,hb,hcell⟩:=h.2 (by omega)
 rw [if_neg (by omega)]
 refine⟨b,o+lo*size,?_,hb,fun j u hu=>?_⟩
 ·
  simp only [Option.map_some,Addr.add]
  split<;>simp_all
 ·
  rw [Nat.add_assoc]
  refine hcell _ u ?_
  rw [List.getElem?_drop,List.getElem?_take]at hu
  split at hu
  · exact hu
  · cases hu
end
theorem below_drewN {B:Nat} {a w:World} (h:Below B a w) (n:Nat):Below B a (w.drewN n):=⟨h.os,h.tape,h.output,h.size,h.block⟩
theorem onward {B:Nat} {a w w':World} (h:Below B a w) (hB:B≤a.heap.size) (k:Below w.heap.size w w'):Below B a w':=h.trans (k.mono (Nat.le_trans hB h.size))
theorem below_cell {B:Nat} {w w':World} (h:Below B w w'):∀b o,b<B→ w'.cell? ⟨b,o,none⟩= w.cell? ⟨b,o,none⟩:=fun b o hb=>h.cell (p:=⟨b,o,none⟩) hb
structure Elem (P:Program) (t e:TypeId) (z:Value) (size bytes:Nat):Prop where
 und:P.underlying t=some (.slice e)
 info:(P.info? e).map (fun i=>(i.zero,i.size,i.bytes))=some (some z,size,bytes)
 cells:z.cells.size=size
 pos:0<size
theorem own_form {w:World} {base:Nat} {e:TypeId} {size:Nat} {v:Value} {n:Nat} {xs:List Value} (h:w.ownsRow base e size v n xs):
  ∃A c,v=.slice A n c∧n≤c∧c≤maxLen∧(A=none→n=0∧c=0)∧xs.length=n*size∧Rd w w.heap.size size A n xs:=by
 obtain⟨hl,⟨rfl,rfl⟩|⟨g,cap,cur,rfl,hb,hg,hn,hc,hs,ht⟩⟩:=h
 ·
  have:xs=[]:=List.eq_nil_of_length_eq_zero (by simpa using hl)
  subst this
  exact⟨none,0,rfl,Nat.le_refl _,by unfold maxLen;omega,fun _=>⟨rfl,rfl⟩,hl,Rd.nil _ _ _ _⟩
 · exact⟨_,cap,rfl,hn,hc,(by simp),hl,Rd.of_own ⟨hl,.inr ⟨g,cap,cur,rfl,hb,hg,hn,hc,hs,ht⟩⟩⟩
theorem own_weaken {w:World} {base base':Nat} {e:TypeId} {size:Nat} {v:Value} {n:Nat} {xs:List Value} (h:w.ownsRow base e size v n xs) (hb:base'≤base):w.ownsRow base' e size v n xs:=by
 obtain⟨hl,h|⟨g,cap,cur,hv,hg,hr⟩⟩:=h
 · exact⟨hl,.inl h⟩
 · exact⟨hl,.inr ⟨g,cap,cur,hv,by omega,hr⟩⟩
section
variable {P : Program}
theorem grown_same (w:World) (row:Option Nat):w.grownBy w row:=⟨rfl,rfl,rfl,Nat.le_refl _,fun _ _ _=>rfl⟩
theorem run_append_rd (w:World) {base:Nat} {t ty e:TypeId} {z:Value} {size bytes:Nat} (E:Elem P t e z size bytes)
  {v:Value} {n:Nat} {xs:List Value} (hown:w.ownsRow base e size v n xs) {B:Nat} {A:Option Addr} {m c:Nat} {news:List Value} (hA:A=none→m=0∧c=0)
  (hr:Rd w B size A m news) (h1:∀u∈news,u.oneCell'=true) (h63:n+m≤maxLen) (hbytes:(n+m)*bytes≤140737488355328) (hbase:base≤w.heap.size):
  ∃A' c' w',(Builtin.append_ #[t,t] ty #[v,.slice A m c]).run P w=.ok (.slice A' (n+m) c') w'∧(A'=none→n+m=0∧c'=0)∧w'.ownsRow base e size (.slice A' (n+m) c') (n+m) (xs++news)∧w.grownBy w' v.ownBlock:=by
 suffices hs:∃v' w',(Builtin.append_ #[t,t] ty #[v,.slice A m c]).run P w=.ok v' w'∧w'.ownsRow base e size v' (n+m) (xs++news)∧w.grownBy w' v.ownBlock by
  obtain⟨v',w',h1,h2,h3⟩:=hs
  obtain⟨A',c',rfl,_,_,h4,_⟩:=own_form h2
  exact⟨A',c',w',h1,h4,h2,h3⟩
 obtain⟨i,hi,hz0,hz1,hz2⟩:=info_parts E.info
 cases A with
 |none=>
  obtain⟨rfl,rfl⟩:=hA rfl
  have hn:news=[]:=List.eq_nil_of_length_eq_zero (by simpa using hr.1)
  subst hn
  exact⟨v,w,run_append_owned_none w base t ty e i size E.und hi v n xs hown,by simpa using hown,grown_same w _⟩
 |some ad=>
  have hcells:∀j u,news[j]?=some u→ w.cell? (ad.add j)=some u:=by
   intro j u hu
   by_cases hm:0<m
   ·
    obtain⟨b,o,he,hb,hc⟩:=hr.2 hm
    injection he with he
    subst he
    have e1:(⟨b,o,none⟩:Addr).add j=⟨b,o+j,none⟩:=by unfold Addr.add;split<;>simp_all
    rw [e1]
    exact hc j u hu
   ·
    obtain rfl:m=0:=by omega
    have hn:news=[]:=List.eq_nil_of_length_eq_zero (by simpa using hr.1)
    subst hn
    simp at hu
  obtain⟨v',w',hrun,h2,h3,_⟩:=run_append_own (P:=P) w base t ty e i z size bytes E.und hi hz0 hz1 hz2 E.cells E.pos v n xs hown ad m c news hr.1 hcells h1 h63 hbytes hbase
  exact⟨v',w',hrun,h2,h3⟩
theorem wp_append_rd (w:World) {o:Oper} {a:Act} {K:Act→World→Prop} {Q:Exit→Act→World→Prop} (s x:Operand) (t:TypeId)
  (ho:o.op=.call { callee:=.builtin .append,args:=#[s,x],argTypes:=#[t,t] })
  {base:Nat} {e:TypeId} {z:Value} {size bytes:Nat} (E:Elem P t e z size bytes)
  {v:Value} {n:Nat} {xs:List Value} (hs:a.eval s=v) (hown:w.ownsRow base e size v n xs) {B:Nat} {A:Option Addr} {m c:Nat} {news:List Value} (hx:a.eval x=.slice A m c) (hA:A=none→m=0∧c=0)
  (hr:Rd w B size A m news) (h1:∀u∈news,u.oneCell'=true) (h63:n+m≤maxLen) (hbytes:(n+m)*bytes≤140737488355328) (hbase:base≤w.heap.size)
  (h:∀A' c' w',(A'=none→n+m=0∧c'=0)→w'.ownsRow base e size (.slice A' (n+m) c') (n+m) (xs++news)→w.grownBy w' v.ownBlock→K (a.put o.dst (.slice A' (n+m) c')) w'):o.wp P a w K Q:=by
 obtain⟨A',c',w',hrun,h2,h3,h4⟩:=run_append_rd (P:=P) (ty:=o.type) w E hown hA hr h1 h63 hbytes hbase
 unfold Oper.wp execOp
 simp only [ho,resolve,invoke,builtin,Sem.run_bind,Sem.run_pure,Result.andThen_ok,List.map_toArray,List.map_cons,List.map_nil,hs,hx,hrun]
 exact h A' c' w' h2 h3 h4
theorem wpList_append_rd (w:World) {ops:Array Oper} {rest:List Oper} {o:Oper} {a:Act} {Q:Exit→Act→World→Prop} (hgd:o.guard=none) (s x:Operand) (t:TypeId)
  (ho:o.op=.call { callee:=.builtin .append,args:=#[s,x],argTypes:=#[t,t] })
  {base:Nat} {e:TypeId} {z:Value} {size bytes:Nat} (E:Elem P t e z size bytes)
  {v:Value} {n:Nat} {xs:List Value} (hs:a.eval s=v) (hown:w.ownsRow base e size v n xs) {B:Nat} {A:Option Addr} {m c:Nat} {news:List Value} (hx:a.eval x=.slice A m c) (hA:A=none→m=0∧c=0)
  (hr:Rd w B size A m news) (h1:∀u∈news,u.oneCell'=true) (h63:n+m≤maxLen) (hbytes:(n+m)*bytes≤140737488355328) (hbase:base≤w.heap.size)
  (h:∀A' c' w',(A'=none→n+m=0∧c'=0)→w'.ownsRow base e size (.slice A' (n+m) c') (n+m) (xs++news)→w.grownBy w' v.ownBlock→wpList P ops Q rest (a.put o.dst (.slice A' (n+m) c')) w'):wpList P ops Q (o::rest) a w:=
 wpList_plain hgd fun _ hK=>wp_append_rd w s x t ho E hs hown hx hA hr h1 h63 hbytes hbase fun A' c' w' h2 h3 h4=>hK _ _ (h A' c' w' h2 h3 h4)
theorem ret_row {fn:Func} {R:Ending→World→Prop} {a:Act} {w:World} {p:Tmp} {ty:TypeId} (h:fn.results=#[.cell p ty]) {g:Nat} {t:TypeId} {cs:Array Value} {d:TypeDesc}
  (hp:a.tmps.getD p undef=.pointer (some ⟨g,0,none⟩)) (hg:Blk w g t cs) (hu:P.underlying ty=some d) (hd:(match d with| .struct _| .array _ _=>true|_=>false)=true) (hi:(P.info? ty).map (·.size)=some cs.size)
  (hdf:a.defers=[]) (hR:R (.returned (.agg cs)) w):bodyPost P fn R .ret a w:=
 bodyPost_ret (results_cell_row h a.tmps w g t cs (0,0) d hp hg hu hd hi) hdf hR
end
theorem ret_int {k:IntKind} {a b:Int} (h:a=b):Ending.returned (.int k a)=.returned (.int k b):=by rw [h]
theorem ret_bool {a b:Bool} (h:a=b):Ending.returned (.bool a)=.returned (.bool b):=by rw [h]
def rowF (k:IntKind) (n:Nat) (f:Nat→Int):Array Value:=((List.range n).map fun i=>Value.int k (f i)).toArray
theorem rowF_size (k:IntKind) (n:Nat) (f:Nat→Int):(rowF k n f).size=n:=by simp [rowF]
theorem rowF_at (k:IntKind) (n:Nat) (f:Nat→Int) (i:Nat) (hi:i<n):(rowF k n f)[i]?=some (.int k (f i)):=by simp [rowF,hi]
theorem rowF_out (k:IntKind) (n:Nat) (f:Nat→Int) (i:Nat) (hi:n≤i):(rowF k n f)[i]?=none:=by rw [Array.getElem?_eq_none (by rw [rowF_size];exact hi)]
theorem rowF_congr {k:IntKind} {n:Nat} {f g:Nat→Int} (h:∀i,i<n→f i=g i):rowF k n f=rowF k n g:=by
 unfold rowF
 congr 1
 exact List.map_congr_left fun i hi=>by rw [h i (List.mem_range.1 hi)]
theorem rowF_set {k:IntKind} {n:Nat} {f g:Nat→Int} {j:Nat} {v:Int} (h:∀i,i<n→g i=if i=j then v else f i):(rowF k n f).setIfInBounds j (.int k v)=rowF k n g:=by
 apply Array.ext_getElem?
 intro i
 rw [Array.getElem?_setIfInBounds,rowF_size]
 by_cases hi:i<n
 ·
  rw [rowF_at _ _ _ i hi,rowF_at _ _ _ i hi,h i hi]
  by_cases e:j=i
  · subst e;simp [hi]
  · rw [if_neg e,if_neg (fun h=>e h.symm)]
 ·
  rw [rowF_out _ _ _ i (by omega),rowF_out _ _ _ i (by omega)]
  split
  · rw [if_neg (by omega)]
  · rfl
theorem rowF_one {k:IntKind} {n:Nat} {f:Nat→Int}:(rowF k n f).all (·.oneCell')=true:=by
 rw [Array.all_eq_true_iff_forall_mem]
 intro v hv
 simp only [rowF,List.mem_toArray,List.mem_map]at hv
 obtain⟨i,_,rfl⟩:=hv
 rfl
theorem Blk.upto {w:World} {G:Nat} {t:TypeId} {k:IntKind} {n j:Nat} {f:Nat→Int} {v:Int} (h:Blk w G t (rowF k n fun i=>if i<j then f i else 0)) (hv:v=f j):Blk (w.setCell ⟨G,j,none⟩ (.int k v)) G t (rowF k n fun i=>if i<j+1 then f i else 0):=by
 rw [←rowF_set (f:=fun i=>if i<j then f i else 0) (j:=j) (v:=v) (fun i hi=>?_)]
 · exact h.set _ _
 ·
  by_cases e:i=j
  · subst e;rw [if_pos rfl,if_pos (by omega),hv]
  ·
   rw [if_neg e]
   by_cases h1:i<j
   · rw [if_pos h1,if_pos (by omega)]
   · rw [if_neg h1,if_neg (by omega)]
theorem Blk.all {w:World} {G:Nat} {t:TypeId} {k:IntKind} {n:Nat} {f:Nat→Int} (h:Blk w G t (rowF k n fun i=>if i<n then f i else 0)):Blk w G t (rowF k n f):=by
 rw [←rowF_congr (f:=fun i=>if i<n then f i else 0) (fun i hi=>if_pos hi)];exact h
theorem Blk.none {w:World} {G:Nat} {t:TypeId} {k:IntKind} {n:Nat} {f:Nat→Int} (h:Blk w G t (rowF k n fun _=>0)):Blk w G t (rowF k n fun i=>if i<0 then f i else 0):=by
 rw [rowF_congr (g:=fun _=>0) (fun i hi=>if_neg (by omega))];exact h
theorem Blk.upto_cell {w:World} {G:Nat} {t:TypeId} {k:IntKind} {n j:Nat} {f:Nat→Int} (h:Blk w G t (rowF k n fun i=>if i<j then f i else 0)) (hj:j<n): w.cell? ⟨G,j,Option.none⟩=some (.int k 0):=by
 rw [h.cell,rowF_at _ _ _ _ hj,if_neg (by omega)]
theorem u64wrap (n:Int):IntKind.u64.wrap n=n%18446744073709551616:=by simp [IntKind.wrap,IntKind.bits,IntKind.signed]
end Mem
namespace Op
open Go.ChangeShapes Go.WideShapes Go.ChangeAt Go.RowKit Mem
def fieldLeaves (L:TypeId→Option (List TypeId)) (C:TypeId→Nat):Nat→List Field→Option (List TypeId)
 |_,[]=>some []
 |off,f::fs=>
  match L f.type with
  |none=>none
  |some l=>
   if f.offset=off∧C f.type=l.length then
    match fieldLeaves L C (off+l.length) fs with
    |none=>none
    |some r=>some (l++r)
   else none
def leaves (P:Program):Nat→TypeId→Option (List TypeId)
 |0,_=>none
 |d+1,t=>
  match P.underlying t with
  |some (.struct fs)=>
   match fieldLeaves (leaves P d) P.cellsOf 0 fs.toList with
   |some l=>if P.cellsOf t=l.length then some l else none
   |none=>none
  |some (.array n e)=>
   match leaves P d e with
   |some l=>if P.cellsOf e=l.length∧P.cellsOf t=n*l.length then some (List.replicate n l).flatten else none
   |none=>none
  |some _=>some [t]
  |none=>none
section
variable {H : Type} (enc : TypeId × Value → H) (P : Program) (w : World) (base : Nat) (spare : Nat → Bool) (held : Bool)
def Light (t:TypeId) (d:DataW H):Prop:=∀k∈d.weights P t,k≤reachBytes
def Leaf (t:TypeId) (v:Value):Prop:=∃n y,DataW.trod enc P w base spare held n t [v]=some y∧Light P t y.1
def Cells:List TypeId→List Value→Prop
 |[],[]=>True
 |t::ts,v::vs=>Leaf enc P w base spare held t v∧Cells ts vs
 |_,_=>False
end
section
variable {H : Type} {enc : TypeId × Value → H} {P : Program} {w : World} {base : Nat} {spare : Nat → Bool} {held : Bool}
theorem Cells.length:∀ {ts:List TypeId} {vs:List Value},Cells enc P w base spare held ts vs→vs.length=ts.length
 |[],[],_=>rfl
 |_::_,_::_,h=>by simp [Cells.length h.2]
 |[],_::_,h=>h.elim
 |_::_,[],h=>h.elim
theorem Cells.append:∀ {ts ts':List TypeId} {vs vs':List Value},Cells enc P w base spare held ts vs→Cells enc P w base spare held ts' vs'→Cells enc P w base spare held (ts++ts') (vs++vs')
 |[],_,[],_,_,h'=>h'
 |_::_,_,_::_,_,h,h'=>⟨h.1,Cells.append h.2 h'⟩
 |[],_,_::_,_,h,_=>h.elim
 |_::_,_,[],_,h,_=>h.elim
theorem Cells.cons {t:TypeId} {ts:List TypeId} {vs:List Value} (h:Cells enc P w base spare held (t::ts) vs):∃v vs',vs=v::vs'∧Leaf enc P w base spare held t v∧Cells enc P w base spare held ts vs':=by
 cases vs with
 |nil=>exact h.elim
 |cons v vs'=>exact⟨v,vs',rfl,h.1,h.2⟩
theorem Cells.nil_ {vs:List Value} (h:Cells enc P w base spare held [] vs):vs=[]:=by
 cases vs with
 |nil=>rfl
 |cons v vs'=>exact h.elim
theorem take_drop_split (cs:List Value) (off a b:Nat):(cs.drop off).take (a+b)=(cs.drop off).take a++(cs.drop (off+a)).take b:=by
 rw [List.take_add,List.drop_drop]
theorem mapM_cons_some {α β:Type} {f:α→Option β} {a:α} {l:List α} {r:List β} (h:(a::l).mapM f=some r):∃b r',f a=some b∧l.mapM f=some r'∧r=b::r':=by
 rw [List.mapM_cons]at h
 cases hf:f a with
 |none=>simp [hf]at h
 |some b=>
  cases hl:l.mapM f with
  |none=>simp [hf,hl]at h
  |some r'=>simp [hf,hl]at h;exact⟨b,r',rfl,rfl,h.symm⟩
theorem mapM_mem_in {α β:Type} {f:α→Option β}:∀ {l:List α} {r:List β},l.mapM f=some r→∀a∈l,∃b,f a=some b∧b∈r
 |[],_,_,a,ha=>by cases ha
 |x::l,r,h,a,ha=>by
  obtain⟨b,r',h1,h2,rfl⟩:=mapM_cons_some h
  cases List.mem_cons.1 ha with
  |inl e=>subst e;exact⟨b,h1,List.mem_cons_self⟩
  |inr e=>obtain⟨b',hb1,hb2⟩:=mapM_mem_in h2 a e;exact⟨b',hb1,List.mem_cons_of_mem _ hb2⟩
theorem light_of_all {e:TypeId}:∀ {ds:List (DataW H)},(∀k∈DataW.weightsAll P e ds,k≤reachBytes)→∀ {d:DataW H},d∈ds→Light P e d
 |[],_,_,hd=>by cases hd
 |x::ds,h,d,hd=>by
  simp only [DataW.weightsAll,List.mem_append]at h
  cases List.mem_cons.1 hd with
  |inl e=>subst e;exact fun k hk=>h k (Or.inl hk)
  |inr e=>exact light_of_all (fun k hk=>h k (Or.inr hk)) e
theorem light_of_each {ts:List TypeId} {ds:List (DataW H)} (h:(DataW.weightsEach P ts ds).all (· ≤reachBytes)=true) {j:Nat} {t:TypeId} {d:DataW H} (ht:ts[j]?=some t) (hd:ds[j]?=some d):Light P t d:=
 fun k hk=>by simpa using List.all_eq_true.1 h _ (DataW.weights_mem_each ht hd k hk)
theorem flat_fields {d n:Nat} (ih:∀t ls,leaves P d t=some ls→∀cs x,DataW.trod enc P w base spare held n t cs=some x→Light P t x.1→Cells enc P w base spare held ls cs) (cs:List Value):
  ∀(fs:List Field) (off:Nat) (ls:List TypeId) (xs:List (DataW H×List MemPlace)),fieldLeaves (leaves P d) P.cellsOf off fs=some ls→
   fs.mapM (fun f=>DataW.trod enc P w base spare held n f.type ((cs.drop f.offset).take (P.cellsOf f.type)))=some xs→
   (∀k∈DataW.weightsEach P (fs.map (·.type)) (xs.map (·.1)),k≤reachBytes)→
   Cells enc P w base spare held ls ((cs.drop off).take ls.length)
 |[],off,ls,xs,hl,_,_=>by
  simp only [fieldLeaves,Option.some.injEq]at hl
  subst hl
  simp [Cells]
 |f::fs,off,ls,xs,hl,h,hwt=>by
  obtain⟨b,r',h1,h2,rfl⟩:=mapM_cons_some h
  simp only [List.map_cons,DataW.weightsEach,List.mem_append]at hwt
  unfold fieldLeaves at hl
  cases hL:leaves P d f.type with
  |none=>simp [hL]at hl
  |some l=>
   simp only [hL]at hl
   split at hl
   ·
    rename_i hc
    obtain⟨ho,hC⟩:=hc
    cases hr:fieldLeaves (leaves P d) P.cellsOf (off+l.length) fs with
    |none=>simp [hr]at hl
    |some r=>
     simp only [hr,Option.some.injEq]at hl
     subst hl
     rw [List.length_append,take_drop_split]
     rw [ho,hC]at h1
     exact Cells.append (ih _ _ hL _ _ h1 (fun k hk=>hwt k (Or.inl hk))) (flat_fields ih cs fs _ _ _ hr h2 (fun k hk=>hwt k (Or.inr hk)))
   · cases hl
theorem flat_array {l:List TypeId} {n:Nat} {e:TypeId} (ih:∀cs x,DataW.trod enc P w base spare held n e cs=some x→Light P e x.1→Cells enc P w base spare held l cs) (cs:List Value):
  ∀(m k:Nat),(∀i,i<k+m→∃y,DataW.trod enc P w base spare held n e ((cs.drop (i*l.length)).take l.length)=some y∧Light P e y.1)→
   Cells enc P w base spare held (List.replicate m l).flatten ((cs.drop (k*l.length)).take (m*l.length))
 |0,k,_=>by simp [Cells]
 |m+1,k,h=>by
  obtain⟨y,hy,hlt⟩:=h k (by omega)
  rw [List.replicate_succ,List.flatten_cons,Nat.succ_mul,Nat.add_comm (m*l.length),take_drop_split]
  refine Cells.append (ih _ _ hy hlt) ?_
  have e1:k*l.length+l.length=(k+1)*l.length:=by rw [Nat.succ_mul]
  rw [e1]
  exact flat_array ih cs m (k+1) (fun i hi=>h i (by omega))
theorem flat:∀(d:Nat) (t:TypeId) (ls:List TypeId),leaves P d t=some ls→∀(n:Nat) (cs:List Value) (x:DataW H×List MemPlace),DataW.trod enc P w base spare held n t cs=some x→Light P t x.1→Cells enc P w base spare held ls cs
 |0,_,_,h,_,_,_,_,_=>by simp [leaves]at h
 |d+1,t,ls,h,0,cs,x,hx,_=>by simp [DataW.trod]at hx
 |d+1,t,ls,h,n+1,cs,x,hx,hlight=>by
  have hx0:=hx
  unfold leaves at h
  unfold DataW.trod at hx
  cases hu:P.underlying t with
  |none=>simp [hu]at h
  |some u=>
   by_cases hs:∃fs,u=.struct fs
   ·
    obtain⟨fs,rfl⟩:=hs
    simp only [hu]at h hx
    cases hf:fieldLeaves (leaves P d) P.cellsOf 0 fs.toList with
    |none=>simp [hf]at h
    |some l=>
     simp only [hf]at h
     split at h
     ·
      rename_i hc
      simp only [Option.some.injEq]at h
      subst h
      split at hx
      ·
       rename_i hlen
       simp only [Option.map_eq_some_iff]at hx
       obtain⟨xs,hxs,rfl⟩:=hx
       have hwt:∀k∈DataW.weightsEach P (fs.toList.map (·.type)) (xs.map (·.1)),k≤reachBytes:=by simpa [Light,DataW.weights,hu] using hlight
       have:=flat_fields (fun t ls hl cs x hx=>flat d t ls hl n cs x hx) cs fs.toList 0 l xs hf hxs hwt
       rwa [List.drop_zero,List.take_of_length_le (by omega)]at this
      · cases hx
     · cases h
   ·
    by_cases ha:∃m e,u=.array m e
    ·
     obtain⟨m,e,rfl⟩:=ha
     simp only [hu]at h hx
     cases hf:leaves P d e with
     |none=>simp [hf]at h
     |some l=>
      simp only [hf]at h
      split at h
      ·
       rename_i hc
       simp only [Option.some.injEq]at h
       subst h
       split at hx
       ·
        rename_i hlen
        simp only [Option.map_eq_some_iff]at hx
        obtain⟨xs,hxs,rfl⟩:=hx
        have hwt:∀k∈DataW.weightsAll P e (xs.map (·.1)),k≤reachBytes:=by simpa [Light,DataW.weights,hu] using hlight
        have:=flat_array (l:=l) (n:=n) (e:=e) (fun cs x hx=>flat d e l hf n cs x hx) cs m 0 (fun i hi=>by
         obtain⟨y,hy,hmem⟩:=mapM_mem_in hxs i (List.mem_range.2 (by omega))
         rw [hc.1]at hy
         exact⟨y,hy,light_of_all hwt (List.mem_map.2 ⟨y,hmem,rfl⟩)⟩)
        rwa [Nat.zero_mul,List.drop_zero,List.take_of_length_le (by rw [hlen,hc.2];exact Nat.le_refl _)]at this
       · cases hx
      · cases h
    ·
     have hone:ls=[t]:=by
      rw [hu]at h
      cases u<;>simp_all
     subst hone
     have hsing:∃v,cs=[v]:=by
      rw [hu]at hx
      split at hx<;>simp_all
     obtain⟨v,rfl⟩:=hsing
     exact⟨⟨n+1,x,hx0,hlight⟩,trivial⟩
theorem flat_arg {t:TypeId} {ls:List TypeId} {v:Value} {d:DataW H} {ps:List MemPlace} (hl:leaves P 20 t=some ls) (h:DataW.Trod enc P w base spare held t v d ps) (hlt:Light P t d):Cells enc P w base spare held ls v.cells.toList:=by
 obtain⟨n,hn⟩:=h
 exact flat 20 t ls hl n _ _ hn hlt
theorem okWide_agg {r:Reach} {b0:Nat} {t:TypeId} {v:Value} (hs:(match P.underlying t with|some (.struct _)|some (.array _ _)=>true|_=>false)=true) (hv:Value.okWide P w r b0 t v):∃cs:Array Value,v=.agg cs:=by
 unfold Value.okWide at hv
 split at hv
 · obtain⟨cs,h,_⟩:=hv;exact⟨cs,h⟩
 · obtain⟨cs,h,_⟩:=hv;exact⟨cs,h⟩
 · split at hs<;>simp_all
theorem Leaf.int {t:TypeId} {k:IntKind} {v:Value} (ht:P.underlying t=some (.int k)) (h:Leaf enc P w base spare held t v):∃m,v=.int k m∧(Lit.int k m).wf=true:=by
 obtain⟨n,y,hy,_⟩:=h
 obtain⟨m,h1,_,hw⟩:=DataW.trod_int ht hy
 simp at h1
 exact⟨m,h1,hw⟩
theorem Leaf.bool {t:TypeId} {v:Value} (ht:P.underlying t=some .bool) (h:Leaf enc P w base spare held t v):∃b,v=.bool b:=by
 obtain⟨n,y,hy,_⟩:=h
 cases n with
 |zero=>simp [DataW.trod]at hy
 |succ n=>
  unfold DataW.trod at hy
  rw [ht]at hy
  split at hy<;>simp_all
theorem wf_i64 {m:Int} (h:(Lit.int .i64 m).wf=true): -9223372036854775808≤m∧m≤9223372036854775807:=by
 simpa [Lit.wf,IntKind.min,IntKind.max,IntKind.signed,IntKind.bits] using h
theorem wf_u8 {m:Int} (h:(Lit.int .u8 m).wf=true):0≤m∧m≤255:=by
 simpa [Lit.wf,IntKind.min,IntKind.max,IntKind.signed,IntKind.bits] using h
theorem cells_of {a:Addr} {n:Nat} {cs:List Value} (h: w.cells? base a n=some cs):cs.length=n∧∀k,k<n→ w.cell? (a.add k)=cs[k]?:=by
 unfold World.cells? at h
 split at h
 ·
  have hlen:cs.length=n:=by
   have:∀(l:List Nat) (r:List Value),l.mapM (fun i=> w.cell? (a.add i))=some r→r.length=l.length:=by
    intro l
    induction l with
    |nil=>intro r h;simp at h;simp [h.symm]
    |cons x l ih=>intro r h;obtain⟨b,r',_,h2,rfl⟩:=mapM_cons_some h;simp [ih _ h2]
   simpa using this _ _ h
  refine⟨hlen,fun k hk=>?_⟩
  have:∀(l:List Nat) (r:List Value),l.mapM (fun i=> w.cell? (a.add i))=some r→∀(j x:Nat),l[j]?=some x→ w.cell? (a.add x)=r[j]?:=by
   intro l
   induction l with
   |nil=>intro r h j x hx;simp at hx
   |cons x l ih=>
    intro r h j y hy
    obtain⟨b,r',h1,h2,rfl⟩:=mapM_cons_some h
    cases j with
    |zero=>simp at hy;subst hy;simpa using h1
    |succ j=>simp at hy;simpa using ih _ h2 j y hy
  exact this _ _ h k k (by simp [hk])
 · cases h
theorem add_lit (b o:Nat) (s:Option Nat) (n:Nat) (h:s=none):(⟨b,o,s⟩:Addr).add n=⟨b,o+n,none⟩:=by
 subst h;unfold Addr.add;split<;>simp_all
theorem Leaf.slice {t e:TypeId} {v:Value} {le:List TypeId} (ht:P.underlying t=some (.slice e)) (hle:leaves P 20 e=some le) (hce:P.cellsOf e=le.length) (hpos:0<le.length) (hsp:∀b,spare b=true) (h:Leaf enc P w base spare held t v):
  ∃(A:Option Addr) (n c:Nat) (xs:List Value),v=.slice A n c∧n≤c∧c≤maxLen∧c*P.bytesOf e≤reachBytes∧(A=none→c=0)∧Rd w w.heap.size le.length A n xs∧
   ∀i,i<n→Cells enc P w base spare held le ((xs.drop (i*le.length)).take le.length):=by
 obtain⟨fuel,y,hy,hlight⟩:=h
 rcases Deep.open_slice ht hy with⟨hcs,_⟩|⟨a,len,cap,m,n,D,Pl,hcs,hb,hlc,hcm,hm,rfl,hel⟩
 ·
  simp at hcs
  subst hcs
  exact⟨none,0,0,[],rfl,by omega,by omega,by omega,fun _=>rfl,Rd.nil _ _ _ _,fun i hi=>by omega⟩
 ·
  simp at hcs
  subst hcs
  have hmc:m=cap:=by rw [hm,if_pos (hsp _)]
  subst hmc
  clear hm
  have hlm:len≤m:=hlc
  simp only [Light,DataW.weights,ht,List.length_map,List.length_range,List.mem_cons,List.mem_append]at hlight
  have hbytes:m*P.bytesOf e≤reachBytes:=by
   have:=hlight _ (Or.inl rfl)
   rwa [show len+(m-len)=m by omega]at this
  have hwt:∀k∈DataW.weightsAll P e ((List.range len).map D),k≤reachBytes:=fun k hk=>hlight k (Or.inr (Or.inl hk))
  have hex:∀i,i<len→∃cs':List Value,(cs'.length=le.length∧∀k,k<le.length→ w.cell? ((a.add (i*le.length)).add k)=cs'[k]?)∧Cells enc P w base spare held le cs':=by
   intro i hi
   obtain⟨cs',h1,h2⟩:=hel i (by omega)
   rw [hce]at h1
   exact⟨cs',cells_of h1,flat 20 e le hle _ _ _ h2 (light_of_all hwt (List.mem_map.2 ⟨i,List.mem_range.2 hi,rfl⟩))⟩
  obtain⟨f,hf⟩:=Deep.choose_lt hex
  have hlenf:∀i,i<len→(f i).length=le.length:=fun i hi=>(hf i hi).1.1
  have hrow:∀k,k≤len→(((List.range k).map f).flatten).length=k*le.length∧∀i,i<k→((((List.range k).map f).flatten).drop (i*le.length)).take le.length=f i:=by
   intro k
   induction k with
   |zero=>intro _;simp
   |succ k ih=>
    intro hk
    obtain⟨h1,h2⟩:=ih (by omega)
    rw [List.range_succ,List.map_append,List.flatten_append]
    simp only [List.map_cons,List.map_nil,List.flatten_cons,List.flatten_nil,List.append_nil]
    refine⟨by rw [List.length_append,h1,hlenf k (by omega),Nat.succ_mul],fun i hi=>?_⟩
    by_cases hik:i=k
    ·
     subst hik
     rw [List.drop_append,h1,List.drop_of_length_le (by omega)]
     simp only [Nat.sub_self,List.drop_zero,List.nil_append]
     exact List.take_of_length_le (by rw [hlenf i (by omega)];exact Nat.le_refl _)
    ·
     have hi':i<k:=by omega
     have hle2:(i+1)*le.length≤k*le.length:=Nat.mul_le_mul_right _ hi'
     rw [Nat.succ_mul]at hle2
     rw [List.drop_append_of_le_length (by omega),List.take_append_of_le_length (by rw [List.length_drop,h1];omega)]
     exact h2 i hi'
  obtain⟨hl1,hl2⟩:=hrow len (Nat.le_refl _)
  refine⟨some a,len,m,((List.range len).map f).flatten,rfl,hlc,hcm,hbytes,(by simp),⟨hl1,fun hn=>?_⟩,fun i hi=>?_⟩
  ·
   have h0:=(hf 0 hn).1.2 0 hpos
   have hsome:∃u,(f 0)[0]?=some u:=⟨(f 0)[0]'(by rw [hlenf 0 hn];exact hpos),List.getElem?_eq_getElem _⟩
   obtain⟨u0,hu0⟩:=hsome
   rw [Nat.zero_mul]at h0
   have ha:(a.add 0).add 0=a:=by simp [Addr.add]
   rw [ha,hu0]at h0
   obtain⟨ab,ao,asp⟩:=a
   have hsp:asp=none:=by
    unfold World.cell? at h0
    split at h0
    · cases asp<;>simp_all
    · cases h0
   have hlt:ab<w.heap.size:=block_lt_of_cell h0
   subst hsp
   refine⟨ab,ao,rfl,hlt,fun j u hu=>?_⟩
   have hj:j<len*le.length:=by
    have:=(List.getElem?_eq_some_iff.1 hu).1
    omega
   have hdm:=Nat.div_add_mod j le.length
   have hi:j/le.length<len:=Nat.div_lt_of_lt_mul (by rw [Nat.mul_comm];exact hj)
   have hmod:j%le.length<le.length:=Nat.mod_lt _ hpos
   have hc:=(hf _ hi).1.2 _ hmod
   rw [add_lit _ _ _ _ rfl,add_lit _ _ _ _ rfl]at hc
   have e1:ao+j/le.length*le.length+j%le.length=ao+j:=by rw [Nat.mul_comm];omega
   rw [e1]at hc
   rw [hc,←hl2 _ hi,List.getElem?_take,if_pos hmod,List.getElem?_drop]
   have e2:j/le.length*le.length+j%le.length=j:=by rw [Nat.mul_comm];omega
   rw [e2]
   exact hu
  ·
   rw [hl2 i hi]
   exact(hf i hi).2
end
theorem arr_of {cs:Array Value} {l:List Value} (h:cs.toList=l):cs=l.toArray:=by subst h;simp
theorem one_cells {H:Type} {enc:TypeId×Value→H} {P:Program} {w:World} {base:Nat} {spare:Nat→Bool} {held:Bool} {t:TypeId} {n:Nat} {xs:List Value} (hl:xs.length=n*1)
  (h:∀i,i<n→Cells enc P w base spare held [t] ((xs.drop (i*1)).take 1)):∀x∈xs,Leaf enc P w base spare held t x:=by
 intro x hx
 obtain⟨i,hi,rfl⟩:=List.getElem_of_mem hx
 have:=h i (by omega)
 rw [Nat.mul_one,List.drop_eq_getElem_cons hi]at this
 exact this.1
theorem ints_of {H:Type} {enc:TypeId×Value→H} {P:Program} {w:World} {base:Nat} {spare:Nat→Bool} {held:Bool} {t:TypeId} {k:IntKind} (ht:P.underlying t=some (.int k)):
  ∀ {xs:List Value},(∀x∈xs,Leaf enc P w base spare held t x)→∃zs:List Int,xs=zs.map (Value.int k)∧∀z∈zs,(Lit.int k z).wf=true
 |[],_=>⟨[],rfl,by simp⟩
 |x::xs,h=>by
  obtain⟨zs,rfl,hz⟩:=ints_of ht (fun y hy=>h y (List.mem_cons_of_mem _ hy))
  obtain⟨m,rfl,hm⟩:=Leaf.int ht (h x List.mem_cons_self)
  exact⟨m::zs,rfl,by intro z hzm;cases List.mem_cons.1 hzm with|inl e=>subst e;exact hm|inr e=>exact hz z e⟩
theorem Leaf.ints {H:Type} {enc:TypeId×Value→H} {P:Program} {w:World} {base:Nat} {spare:Nat→Bool} {held:Bool} {t e:TypeId} {v:Value} {k:IntKind} (ht:P.underlying t=some (.slice e)) (he:P.underlying e=some (.int k)) (hce:P.cellsOf e=1) (hsp:∀b,spare b=true)
  (h:Leaf enc P w base spare held t v):∃(A:Option Addr) (c:Nat) (zs:List Int),v=.slice A zs.length c∧zs.length≤c∧c≤maxLen∧c*P.bytesOf e≤reachBytes∧(A=none→c=0)∧Rd w w.heap.size 1 A zs.length (zs.map (Value.int k))∧∀z∈zs,(Lit.int k z).wf=true:=by
 obtain⟨A,n,c,xs,rfl,h1,h2,h3,h4,h5,h6⟩:=Leaf.slice (le:=[e]) ht (by simp [leaves,he]) hce (by simp) hsp h
 obtain⟨zs,rfl,hz⟩:=ints_of he (one_cells (by simpa using h5.1) h6)
 have hn:n=zs.length:=by have:=h5.1;simp at this;omega
 subst hn
 exact⟨A,c,zs,rfl,h1,h2,h3,h4,h5,hz⟩
end Op
namespace Ms
open Go.ChangeShapes Go.WideShapes Go.ChangeAt Go.RowKit Mem
def intsV (zs:List Int):List Value:=zs.map (Value.int .i64)
theorem intsV_at (zs:List Int) (k:Nat) (hk:k<zs.length):(intsV zs)[k]?=some (.int .i64 zs[k]):=by simp [intsV,hk]
theorem intsV_one (zs:List Int):∀u∈intsV zs,u.oneCell'=true:=fun u hu=>by
 obtain⟨z,_,rfl⟩:=List.mem_map.1 hu
 rfl
theorem elemInts:Elem Tryz.prog 70 3 (.int .i64 0) 1 8:=⟨Tryz.underlying70,by kernel_rfl,rfl,by omega⟩
def msgV (k f n:Int) (A:Option Addr) (l c:Nat):Value:=.agg #[.int .i64 k,.int .i64 f,.int .i64 n,.slice A l c]
def msgC (k f n:Int) (A:Option Addr) (l c:Nat):Array Value:=#[.int .i64 k,.int .i64 f,.int .i64 n,.slice A l c]
def wrong (k f n:Int) (l:Nat):Int:=if k<1∨5<k then 4 else if f<0∨3<f∨n<0∨2147483647<n then 3 else if 24<l then 6 else 0
end Ms
namespace Flat
open Go.RowKit Mem
def eqFieldsOK (P:Program) (L:TypeId→Option (List Bool)):Nat→List Field→Option (List Bool)
 |_,[]=>some []
 |off,f::fs=>
  match L f.type with
  |none=>none
  |some l=>
   if f.offset=off∧f.name≠ "_" ∧(P.info? f.type).map (·.size)=some l.length then
    match eqFieldsOK P L (off+l.length) fs with
    |none=>none
    |some r=>some (l++r)
   else none
def eqOK (P:Program):Nat→TypeId→Option (List Bool)
 |0,_=>none
 |d+1,t=>
  match P.underlying t with
  |some .bool=>some [false]
  |some (.int _)=>some [true]
  |some (.struct fs)=>if P.stoodInHeld t=false then eqFieldsOK P (eqOK P d) 0 fs.toList else none
  |some (.array n e)=>
   match eqOK P d e with
   |none=>none
   |some l=>if(P.info? e).map (·.size)=some l.length then some (List.replicate n l).flatten else none
  |_=>none
def Typed:List Bool→List Value→Prop
 |[],[]=>True
 |b::bs,v::vs=>(match b with|true=>∃k n,v=Value.int k n|false=>∃c,v=Value.bool c)∧Typed bs vs
 |_,_=>False
theorem Typed.length:∀ {bs:List Bool} {vs:List Value},Typed bs vs→vs.length=bs.length
 |[],[],_=>rfl
 |_::_,_::_,h=>by simp [Typed.length h.2]
 |[],_::_,h=>h.elim
 |_::_,[],h=>h.elim
theorem Typed.split:∀ {a b:List Bool} {vs:List Value},Typed (a++b) vs→Typed a (vs.take a.length)∧Typed b (vs.drop a.length)
 |[],_,_,h=>⟨by simp [Typed],h⟩
 |_::a,b,[],h=>h.elim
 |x::a,b,v::vs,h=>by
  obtain⟨h1,h2⟩:=h
  obtain⟨h3,h4⟩:=Typed.split (a:=a) h2
  exact⟨⟨h1,by simpa using h3⟩,by simpa using h4⟩
section
variable {P : Program}
theorem run_isAgg {t:TypeId} {d:TypeDesc} (hu:P.underlying t=some d) (w:World):(isAgg t).run P w=.ok d.isRow w:=by
 unfold isAgg
 rw [Sem.run_bind,run_underlying hu w]
 cases d<;>rfl
theorem run_part_row {t:TypeId} {d:TypeDesc} (hu:P.underlying t=some d) (hd:d.isRow=true) {n:Nat} (hi:(P.info? t).map (·.size)=some n) (cs:Array Value) (off:Nat) (w:World):
  (part t cs off).run P w=.ok (.agg (cs.extract off (off+n))) w:=by
 obtain⟨i,hq,hs⟩:=Option.map_eq_some_iff.1 hi
 unfold part
 simp [Sem.run_bind,run_isAgg hu,hd,sizeOf,typeInfo,hq,hs]
theorem run_part_one {t:TypeId} {d:TypeDesc} (hu:P.underlying t=some d) (hd:d.isRow=false) (cs:Array Value) (off:Nat) (v:Value) (hv:cs[off]?=some v) (w:World):
  (part t cs off).run P w=.ok v w:=by
 unfold part
 simp [Sem.run_bind,run_isAgg hu,hd,hv]
def Refl (P:Program) (d:Nat) (t:TypeId) (ls:List Bool):Prop:=
 ∀(xs:Array Value) (off:Nat),Typed ls ((xs.toList.drop off).take ls.length)→(P.info? t).map (·.size)=some ls.length→∀w:World,∃v,(part t xs off).run P w=.ok v w∧∀d',d≤d'→(Op.equalIn d' t v v).run P w=.ok true w
theorem fields_refl {d:Nat} {L:TypeId→Option (List Bool)} (ih:∀t ls,L t=some ls→Refl P d t ls) (xs:Array Value) {d':Nat} (hd:d≤d') (w:World):
  ∀(fs:List Field) (off:Nat) (ls:List Bool),eqFieldsOK P L off fs=some ls→Typed ls ((xs.toList.drop off).take ls.length)→(Op.eqFields d' xs xs fs).run P w=.ok true w
 |[],_,_,_,_=>by simp [Op.eqFields]
 |f::fs,off,ls,h,ht=>by
  unfold eqFieldsOK at h
  cases hL:L f.type with
  |none=>simp [hL]at h
  |some l=>
   simp only [hL]at h
   split at h
   ·
    rename_i hc
    obtain⟨ho,hn,hs⟩:=hc
    cases hr:eqFieldsOK P L (off+l.length) fs with
    |none=>simp [hr]at h
    |some r=>
     simp only [hr,Option.some.injEq]at h
     subst h
     obtain⟨t1,t2⟩:=ht.split
     have e1:((xs.toList.drop off).take (l++r).length).take l.length=(xs.toList.drop off).take l.length:=by
      rw [List.take_take,List.length_append,Nat.min_eq_left (by omega)]
     have e2:((xs.toList.drop off).take (l++r).length).drop l.length=(xs.toList.drop (off+l.length)).take r.length:=by
      rw [List.length_append,List.drop_take,List.drop_drop]
      congr 1;omega
     rw [e1]at t1
     rw [e2]at t2
     obtain⟨v,hv,he⟩:=ih _ _ hL xs off t1 hs w
     unfold Op.eqFields
     rw [if_pos hn,ho]
     simp only [Sem.run_bind,hv,Result.andThen_ok,he d' hd,Bool.not_true,Bool.false_eq_true,if_false]
     exact fields_refl ih xs hd w fs _ _ hr t2
   · cases h
theorem array_refl {d e:Nat} {l:List Bool} (ih:Refl P d e l) (hs:(P.info? e).map (·.size)=some l.length) (xs:Array Value) {d':Nat} (hd:d≤d') (w:World) (n:Nat):
  ∀(m k:Nat),k+m≤n→Typed (List.replicate m l).flatten ((xs.toList.drop (k*l.length)).take (m*l.length))→
   ∀b:Option Bool×Unit,b.1=none→(forIn (m:=Sem) (List.range' k m) b (fun i _=>do
    let a←part e xs (i*l.length)
    let c←part e xs (i*l.length)
    let r←Op.equalIn d' e a c
    if(!r)=true then pure (ForInStep.done (some false,()))else pure (ForInStep.yield (none,())))).run P w=.ok (none,()) w
 |0,k,_,_,b,hb=>by
  obtain⟨b1,b2⟩:=b
  simp only at hb
  subst hb
  simp
 |m+1,k,hk,ht,b,hb=>by
  rw [List.replicate_succ,List.flatten_cons]at ht
  obtain⟨t1,t2⟩:=ht.split
  have e1:((xs.toList.drop (k*l.length)).take ((m+1)*l.length)).take l.length=(xs.toList.drop (k*l.length)).take l.length:=by
   rw [List.take_take,Nat.succ_mul,Nat.min_eq_left (by omega)]
  have e2:((xs.toList.drop (k*l.length)).take ((m+1)*l.length)).drop l.length=(xs.toList.drop ((k+1)*l.length)).take (m*l.length):=by
   rw [List.drop_take,List.drop_drop,Nat.succ_mul,Nat.succ_mul]
   congr 1;omega
  rw [e1]at t1
  rw [e2]at t2
  obtain⟨v,hv,he⟩:=ih xs (k*l.length) t1 hs w
  rw [List.range'_succ,List.forIn_cons]
  simp only [Sem.run_bind,hv,Result.andThen_ok,he d' hd,Bool.not_true,Bool.false_eq_true,if_false,Sem.run_pure]
  exact array_refl ih hs xs hd w n m (k+1) (by omega) t2 _ rfl
theorem typed_flatten_length (n:Nat) (l:List Bool):((List.replicate n l).flatten).length=n*l.length:=by simp
theorem refl:∀(d:Nat) (t:TypeId) (ls:List Bool),eqOK P d t=some ls→Refl P d t ls
 |0,_,_,h=>by simp [eqOK]at h
 |d+1,t,ls,h=>by
  intro xs off ht hs w
  unfold eqOK at h
  cases hu:P.underlying t with
  |none=>simp [hu]at h
  |some u=>
   rw [hu]at h
   cases u with
   |bool=>
    simp only [Option.some.injEq]at h
    subst h
    obtain⟨v,hv⟩:∃v,xs[off]?=some v:=by
     cases hx:xs[off]? with
     |some v=>exact⟨v,rfl⟩
     |none=>
      have:=ht.length
      simp at this hx
      omega
    have hvt:∃c,v=Value.bool c:=by
     have e:(xs.toList.drop off).take 1=[v]:=by
      have hlt:off<xs.toList.length:=by
       have:=(Array.getElem?_eq_some_iff.1 hv).1
       simpa using this
      rw [List.drop_eq_getElem_cons hlt,List.take_succ_cons,List.take_zero]
      congr 1
      have:=(Array.getElem?_eq_some_iff.1 hv).2
      simpa using this
     rw [show [false].length=1 from rfl,e]at ht
     exact ht.1
    obtain⟨c,rfl⟩:=hvt
    refine⟨_,run_part_one hu rfl xs off _ hv w,fun d' hd=>?_⟩
    obtain⟨d'',rfl⟩:∃d'',d'=d''+1:=⟨d'-1,by omega⟩
    rw [run_equalIn_bool' w d'' t c c hu]
    simp
   |int k=>
    simp only [Option.some.injEq]at h
    subst h
    obtain⟨v,hv⟩:∃v,xs[off]?=some v:=by
     cases hx:xs[off]? with
     |some v=>exact⟨v,rfl⟩
     |none=>
      have:=ht.length
      simp at this hx
      omega
    have hvt:∃k n,v=Value.int k n:=by
     have e:(xs.toList.drop off).take 1=[v]:=by
      have hlt:off<xs.toList.length:=by
       have:=(Array.getElem?_eq_some_iff.1 hv).1
       simpa using this
      rw [List.drop_eq_getElem_cons hlt,List.take_succ_cons,List.take_zero]
      congr 1
      have:=(Array.getElem?_eq_some_iff.1 hv).2
      simpa using this
     rw [show [true].length=1 from rfl,e]at ht
     exact ht.1
    obtain⟨k',n,rfl⟩:=hvt
    refine⟨_,run_part_one hu rfl xs off _ hv w,fun d' hd=>?_⟩
    obtain⟨d'',rfl⟩:∃d'',d'=d''+1:=⟨d'-1,by omega⟩
    rw [run_equalIn_int w d'' t k' k n n hu]
    simp
   |struct fs=>
    simp only at h
    split at h
    ·
     rename_i hp
     refine⟨_,run_part_row hu rfl hs xs off w,fun d' hd=>?_⟩
     obtain⟨d'',rfl⟩:∃d'',d'=d''+1:=⟨d'-1,by omega⟩
     have hf:P.underlying t=some (.struct (P.fieldsOf t)):=by simp [Program.fieldsOf,hu]
     rw [run_equalIn_struct w d'' t _ _ hf hp]
     have hff:P.fieldsOf t=fs:=by simp [Program.fieldsOf,hu]
     rw [hff]
     refine fields_refl (fun t ls hl=>refl d t ls hl) _ (by omega) w _ 0 ls h ?_
     have e:(((xs.extract off (off+ls.length)).toList.drop 0).take ls.length)=(xs.toList.drop off).take ls.length:=by
      simp [List.take_take,Array.toList_extract]
     rw [e];exact ht
    · cases h
   |array n e=>
    simp only at h
    cases hl:eqOK P d e with
    |none=>simp [hl]at h
    |some l=>
     simp only [hl]at h
     split at h
     ·
      rename_i hse
      simp only [Option.some.injEq]at h
      subst h
      refine⟨_,run_part_row hu rfl hs xs off w,fun d' hd=>?_⟩
      obtain⟨d'',rfl⟩:∃d'',d'=d''+1:=⟨d'-1,by omega⟩
      obtain⟨i,hq,hsz⟩:=Option.map_eq_some_iff.1 hse
      have ha:=array_refl (d':=d'') (refl d e l hl) hse (xs.extract off (off+(List.replicate n l).flatten.length)) (by omega) w n n 0 (by omega) (by
       have e2:(((xs.extract off (off+(List.replicate n l).flatten.length)).toList.drop (0*l.length)).take (n*l.length))=(xs.toList.drop off).take (List.replicate n l).flatten.length:=by
        rw [typed_flatten_length]
        simp [List.take_take,Array.toList_extract]
       rw [e2];exact ht) (none,()) rfl
      unfold Op.equalIn
      simp only [Sem.run_bind,run_underlying hu,Result.andThen_ok,sizeOf,typeInfo,run_program,hq,hsz,Sem.run_pure]
      rw [Std.Legacy.Range.forIn_eq_forIn_range']
      rw [show(List.range' [:n].start [:n].size [:n].step)=List.range' 0 n from by simp [Std.Legacy.Range.size]]
      rw [ha]
      rfl
     · cases h
   |_=>simp at h
end
end Flat
end Go.Proofs.YtljpoibnkkcjdaaGreatDoor
