import Derived.Test.YtljpoibnkkcjdaaGreatDoorPc7
set_option linter.unusedVariables false
set_option linter.unusedSimpArgs false
namespace Go.Proofs.YtljpoibnkkcjdaaGreatDoor
namespace Nd
open Go.RowKit Mem Rws Flat
def rz (zs:List Int) (j:Nat):Value:=.int .i64 (zs.getD j 0)
def relayK (f:Nat→Value) (rv:Nat→Option (List Int)) (k i:Nat):Value:=if 39≤i∧i<39+k*3 then(match rv ((i-39)/3)with|some zs=>rz zs ((i-39)%3)|none=>f i)else f i
theorem relayK_zero (f:Nat→Value) (rv:Nat→Option (List Int)) (S:Value):row 74 (nodeW (relayK f rv 0) S)=row 74 (nodeW f S):=row_congr fun i hi=>by
 unfold nodeW relayK
 rw [if_neg (show ¬(39≤i∧i<39+0*3)by omega)]
theorem relayK_none (f:Nat→Value) (rv:Nat→Option (List Int)) (k:Nat) (S:Value) (h:rv k=none):row 74 (nodeW (relayK f rv (k+1)) S)=row 74 (nodeW (relayK f rv k) S):=row_congr fun i hi=>by
 unfold nodeW relayK
 by_cases h1:39≤i∧i<39+k*3
 · rw [if_pos h1,if_pos (show 39≤i∧i<39+(k+1)*3 by omega)]
 ·
  by_cases h2:39≤i∧i<39+(k+1)*3
  · rw [if_neg h1,if_pos h2,show(i-39)/3=k by omega,h]
  · rw [if_neg h1,if_neg h2]
theorem relayK_some (f:Nat→Value) (rv:Nat→Option (List Int)) (k:Nat) (hk:k<4) (S:Value) {zs:List Int} (h:rv k=some zs):row 74 (over (39+k*3) 3 (rz zs) (nodeW (relayK f rv k) S))=row 74 (nodeW (relayK f rv (k+1)) S):=row_congr fun i hi=>by
 by_cases h1:39+k*3≤i∧i<39+k*3+3
 ·
  rw [over_in h1.1 h1.2]
  unfold nodeW relayK
  rw [if_neg (show ¬(i=73)by omega),if_pos (show 39≤i∧i<39+(k+1)*3 by omega),show(i-39)/3=k by omega,h,show i-(39+k*3)=(i-39)%3 by omega]
 ·
  rw [over_out (by omega)]
  unfold nodeW relayK
  by_cases h2:39≤i∧i<39+k*3
  · rw [if_pos h2,if_pos (show 39≤i∧i<39+(k+1)*3 by omega)]
  · rw [if_neg h2,if_neg (show ¬(39≤i∧i<39+(k+1)*3)by omega)]
theorem relayK_low (f:Nat→Value) (rv:Nat→Option (List Int)) (k i:Nat) (h:i<39):relayK f rv k i=f i:=if_neg (by omega)
theorem ok_relay {f:Nat→Value} (hf:∀i,i<73→okT (nodeT i) (f i)) (rv:Nat→Option (List Int)) (k:Nat) (hk:k≤4):∀i,i<73→okT (nodeT i) (relayK f rv k i):=fun i hi=>by
 unfold relayK
 by_cases h1:39≤i∧i<39+k*3
 ·
  rw [if_pos h1]
  have e:nodeT i=true:=by
   obtain⟨a,b⟩:=h1
   unfold nodeT
   simp
   omega
  cases rv ((i-39)/3)with
  |some z=>rw [e];exact⟨_,rfl⟩
  |none=>exact hf i hi
 · rw [if_neg h1];exact hf i hi
def dvs (f:Nat→Value):List Int:=(List.range 12).map fun j=>iv (f (39+j))
theorem dvs_row {f:Nat→Value} (hf:∀i,i<73→okT (nodeT i) (f i)):((List.range 12).map fun j=>f (39+j))=Ms.intsV (dvs f):=by
 unfold Ms.intsV dvs
 rw [List.map_map]
 refine List.map_congr_left fun j hj=>?_
 have hj:=List.mem_range.1 hj
 have e:nodeT (39+j)=true:=by unfold nodeT;simp;omega
 have:=hf (39+j) (by omega)
 rw [e]at this
 exact iv_of this
def relayV (id fr:Int) (ms:List Ms.Msg) (i:Nat):Option (List Int):=(Ms.firstOf id fr 1 3 (i:Int) ms).map fun m=>m.zs
theorem wpList_copy_cells {P:Program} {w:World} {ops:Array Oper} {rest:List Oper} {o:Oper} {a:Act} {Q:Exit→Act→World→Prop} (hgd:o.guard=none) (d s:Operand) (dT sT:TypeId)
  (ho:o.op=.call { callee:=.builtin .copy,args:=#[d,s],argTypes:=#[dT,sT] }) (elem:TypeId) (hu:P.underlying dT=some (.slice elem)) (hsz:(P.info? elem).map (·.size)=some 1)
  (b off dLen dCap:Nat) (ad:Addr) (sLen sCap:Nat) (hd:a.eval d=.slice (some ⟨b,off,none⟩) dLen dCap) (hs:a.eval s=.slice (some ad) sLen sCap)
  (cs:List Value) (hn:cs.length=Nat.min sLen dLen) (hsrc:∀j v,cs[j]?=some v→ w.cell? (ad.add j)=some v)
  (hc:∀j,j<cs.length→(w.cell? ⟨b,off+j,none⟩).isSome=true) (hf:∀j,j<cs.length→ w.frozen? ⟨b,off+j,none⟩=false) (h1:∀v∈cs,v.oneCell'=true)
  (h:wpList P ops Q rest (a.put o.dst (goInt cs.length)) (w.setCells b off cs)):wpList P ops Q (o::rest) a w:=by
 refine wpList_plain hgd fun K hK=>?_
 have hrun:=run_copy_cells (P:=P) w dT sT o.type elem b off dLen dCap ad sLen sCap cs hu hsz hn hsrc hc hf h1
 unfold Oper.wp
 simp [execOp,ho,resolve,invoke,builtin,hd,hs,hrun,Result.andThen]
 exact hK _ _ h
theorem own_blk {w:World} {base:Nat} {e:TypeId} {size n B:Nat} {v:Value} {xs:List Value} (h:w.ownsRow base e size v n xs) (hB:B+1+1<base):∀g,g≤B+1+1→some g≠v.ownBlock:=fun g hg e=>by
 have:=(h.lt g e.symm).1
 omega
theorem range3 (F:Nat→Value) (n:Nat):(List.range (n+3)).map F=(List.range n).map F++(List.range 3).map fun a=>F (n+a):=by
 simp [List.range_succ]
theorem run_index_direct (F:Nat→Value) (k:Nat) (hk:k<4) (w:World):(Instr.index 34 (.agg (row 12 F)) (.int .i64 (k:Int))).run Tryz.prog w=.ok (.agg (row 3 fun a=>F (k*3+a))) w:=by
 obtain rfl|rfl|rfl|rfl:k=0∨k=1∨k=2∨k=3:=by omega
 all_goals kernel_rfl
end Nd
namespace Nd
open Go.RowKit Mem Rws Flat
def bv:Value→Bool
 | .bool b=>b
 |_=>false
theorem bv_of {v:Value} (h:okT false v):v=.bool (bv v):=by obtain⟨n,rfl⟩:=h;rfl
def bentZ (b:Bool):Int:=if b then 1 else 0
def axZ (f:Nat→Value) (a:Nat):List Int:=[iv (f (6+(a*7+0))),iv (f (6+(a*7+1))),iv (f (6+(a*7+2))),iv (f (6+(a*7+3))),iv (f (6+(a*7+4))),bentZ (bv (f (6+(a*7+5)))),iv (f (6+(a*7+6)))]
def axesZ (f:Nat→Value):Nat→List Int
 |0=>[]
 |a+1=>axesZ f a++axZ f a
theorem axesZ_len (f:Nat→Value):∀k,(axesZ f k).length=k*7
 |0=>rfl
 |k+1=>by
  show(axesZ f k++axZ f k).length=_
  rw [List.length_append,axesZ_len f k]
  show k*7+7=_
  omega
def inZ (f:Nat→Value):Nat→Nat
 |0=>0
 |k+1=>inZ f k+if bv (f (27+k))then 2 ^ k else 0
theorem inZ_lt (f:Nat→Value):∀k,inZ f k<2 ^ k
 |0=>Nat.zero_lt_one
 |k+1=>by
  have h:=inZ_lt f k
  unfold inZ
  rw [Nat.pow_succ]
  split<;>omega
set_option maxRecDepth 100000 in
theorem or_in:∀k,k<4→∀I:Nat,I<2 ^ k→bits .or .i64 (I:Int) ((2 ^ k:Nat):Int)=((I+2 ^ k:Nat):Int):=of_decide_eq_true (by kernel_rfl)
def octZ (o:Nat) (f:Nat→Value):Nat→Int
 |0=>0
 |k+1=>IntKind.i64.wrap (IntKind.i64.wrap (octZ o f k*8)+iv (f (o+k)))
def packZ (f:Nat→Value):List Int:=axesZ f 3++[((inZ f 4:Nat):Int),octZ 31 f 4,octZ 35 f 4]
theorem packZ_len (f:Nat→Value):(packZ f).length=24:=by
 unfold packZ
 rw [List.length_append,axesZ_len]
 rfl
theorem row7 (F:Nat→Value):row 7 F=#[F 0,F 1,F 2,F 3,F 4,F 5,F 6]:=rfl
theorem run_index_axes (F:Nat→Value) (k:Nat) (hk:k<3) (w:World):(Instr.index 28 (.agg (row 21 F)) (.int .i64 (k:Int))).run Tryz.prog w=.ok (.agg (row 7 fun j=>F (k*7+j))) w:=by
 obtain rfl|rfl|rfl:k=0∨k=1∨k=2:=by omega
 all_goals kernel_rfl
theorem axis_cells {f:Nat→Value} (hf:∀i,i<73→okT (nodeT i) (f i)) (k:Nat) (hk:k<3):∃a b c d e m:Int,∃t:Bool,(row 7 fun j=>f (6+(k*7+j)))=#[.int .i64 a,.int .i64 b,.int .i64 c,.int .i64 d,.int .i64 e,.bool t,.int .i64 m]∧axZ f k=[a,b,c,d,e,bentZ t,m]:=by
 have hi:∀j,j<7→j≠5→f (6+(k*7+j))=.int .i64 (iv (f (6+(k*7+j)))):=fun j hj h5=>iv_of (by
  have h:=hf (6+(k*7+j)) (by omega)
  have e:nodeT (6+(k*7+j))=true:=by
   obtain rfl|rfl|rfl:k=0∨k=1∨k=2:=by omega
   all_goals (unfold nodeT;simp;omega)
  rw [e]at h;exact h)
 have hb:f (6+(k*7+5))=.bool (bv (f (6+(k*7+5)))):=bv_of (by
  have h:=hf (6+(k*7+5)) (by omega)
  have e:nodeT (6+(k*7+5))=false:=by
   obtain rfl|rfl|rfl:k=0∨k=1∨k=2:=by omega
   all_goals rfl
  rw [e]at h;exact h)
 refine⟨_,_,_,_,_,_,_,?_,rfl⟩
 rw [row7,←hi 0 (by omega) (by omega),←hi 1 (by omega) (by omega),←hi 2 (by omega) (by omega),←hi 3 (by omega) (by omega),←hi 4 (by omega) (by omega),←hi 6 (by omega) (by omega),←hb]
theorem node_int {f:Nat→Value} (hf:∀i,i<73→okT (nodeT i) (f i)) (i:Nat) (h31:31≤i) (h39:i<39):f i=.int .i64 (iv (f i)):=iv_of (by
  have h:=hf i (by omega)
  have e:nodeT i=true:=by unfold nodeT;simp;omega
  rw [e]at h;exact h)
theorem node_bool {f:Nat→Value} (hf:∀i,i<73→okT (nodeT i) (f i)) (i:Nat) (h31:27≤i) (h39:i<31):f i=.bool (bv (f i)):=bv_of (by
  have h:=hf i (by omega)
  have e:nodeT i=false:=by
   obtain rfl|rfl|rfl|rfl:i=27∨i=28∨i=29∨i=30:=by omega
   all_goals rfl
  rw [e]at h;exact h)
def PackAs (w w':World) (f:Nat→Value) (e:Ending):Prop:=∃A c,e=.returned (.slice A 24 c)∧w'.ownsRow w.heap.size 3 1 (.slice A 24 c) 24 (Ms.intsV (packZ f))∧Below w.heap.size w w'
set_option maxRecDepth 100000 in
set_option maxHeartbeats 2000000 in
theorem pack_any (f:Nat→Value) (hf:∀i,i<73→okT (nodeT i) (f i)) (S:Value) (w:World):
  Calls Tryz.prog 41 #[.agg (row 74 (nodeW f S))] w fun e w'=>PackAs w w' f e:=by
 have hcl:∀i,i<73→(row 74 (nodeW f S))[i]?=some (f i):=fun i hi=>by rw [row_at (by omega)];unfold nodeW;rw [if_neg (by omega)]
 have hmid:(row 21 fun j=>nodeW f S (6+j))=row 21 fun j=>f (6+j):=row_congr fun j hj=>by unfold nodeW;rw [if_neg (by omega)]
 have HC:=Lib.hid hcl
 have HM:=Lib.hid hmid
 have HF:=Lib.hid hf
 clear hcl hmid hf
 go_enter Tryz.func41,Tryz.ntmps41
 go_upto_region 2 with fail
 have HN:=Lib.hid (show Blk (w.alloc (.cells (row 74 (nodeW f S)) 39)) w.heap.size 39 (row 74 (nodeW f S))from Blk.fresh _ _ _)
 have HB:=Lib.hid ((Below.refl w.heap.size w).alloc (Nat.le_refl _) (.cells (row 74 (nodeW f S)) 39))
 generalize(w.alloc (.cells (row 74 (nodeW f S)) 39))=w1 at*
 obtain⟨gn,hgn⟩:∃g,w.heap.size=g:=⟨_,rfl⟩
 have HGN:=Lib.hid hgn
 rw [hgn]at HN ⊢
 have HB:=Lib.hid (show Below gn w w1 from by have h:=HB.out;rw [HGN.out]at h;exact h)
 clear hgn
 go_wp2_with(refine wpList_mid rfl 28 _ rfl gn 6 21 rfl HN.out (by omega) _ Tryz.underlying28 rfl (by kernel_rfl) ?_)
 rw [HM.out]
 have HIX:=Lib.hid (fun(k:Nat) (hk:k<3) (w:World)=>run_index_axes (fun j=>f (6+j)) k hk w)
 generalize(row 21 fun j=>f (6+j))=R21 at*
 obtain⟨R,hR⟩:∃R,row 74 (nodeW f S)=R:=⟨_,rfl⟩
 rw [hR]at HN
 have HC:=Lib.hid (fun i hi=>show R[i]?=some (f i)by rw [←hR];exact HC.out i hi)
 clear hR HM
 go_loopw [3,13] (fun lv iv wr=>∃(k n:Nat) (A:Option Addr) (c:Nat),k≤3∧n=k*7∧iv=.int .i64 (k:Int)∧lv=.slice A n c∧wr.ownsRow (gn+1) 3 1 (.slice A n c) n (Ms.intsV (axesZ f k))∧Blk wr gn 39 R∧Below gn w wr) (fun _ iv _=>3-(intOf iv).toNat)
 case atStart=>exact⟨0,0,none,0,by omega,rfl,rfl,rfl,World.ownsRow_nil _ _ _ _,HN.out,HB.out⟩
 case round=>
  clear HN HB
  obtain⟨k,n,A,c,hk,hn,rfl,rfl,ho,hnd,hb⟩:=hrel
  have HO:=Lib.hid ho
  have HN:=Lib.hid hnd
  have HB:=Lib.hid hb
  have HNK:=Lib.hid hn
  clear ho hnd hb hn
  by_cases hlt:k<3
  ·
   obtain⟨a,b,c0,d,e,m,t,hlit,hax⟩:=axis_cells HF.out k hlt
   have HAX:=Lib.hid (show axesZ f (k+1)=axesZ f k++[a,b,c0,d,e,bentZ t,m]by show axesZ f k++axZ f k=_;rw [hax])
   have hix:=fun w=>HIX.out k hlt w
   rw [hlit]at hix
   have hlg:=HN.out.lt
   have hn3:n≤14:=by have:=HNK.out;omega
   clear hlit hax
   go_upto_region 6 with fail
   have HT7:=Lib.hid (Blk.fresh wr 27 #[.int .i64 a,.int .i64 b,.int .i64 c0,.int .i64 d,.int .i64 e,.bool t,.int .i64 m])
   have HBw:=Lib.hid ((Below.refl wr.heap.size wr).alloc (Nat.le_refl _) (.cells #[.int .i64 a,.int .i64 b,.int .i64 c0,.int .i64 d,.int .i64 e,.bool t,.int .i64 m] 27))
   have HO:=Lib.hid (ownsRow_below HO.out HBw.out)
   have HN:=Lib.hid (HN.out.below HBw.out HN.out.lt)
   have HB:=Lib.hid (HB.out.alloc (by omega) (.cells #[.int .i64 a,.int .i64 b,.int .i64 c0,.int .i64 d,.int .i64 e,.bool t,.int .i64 m] 27))
   generalize(wr.alloc (.cells #[.int .i64 a,.int .i64 b,.int .i64 c0,.int .i64 d,.int .i64 e,.bool t,.int .i64 m] 27))=w2 at*
   obtain⟨gs,hgs⟩:∃g,wr.heap.size=g:=⟨_,rfl⟩
   rw [hgs]at HT7 hlg ⊢
   have hgt:=HT7.out.lt
   have y0:=HT7.out.cell 0
   have y1:=HT7.out.cell 1
   have y2:=HT7.out.cell 2
   have y3:=HT7.out.cell 3
   have y4:=HT7.out.cell 4
   have y5:=HT7.out.cell 5
   have y6:=HT7.out.cell 6
   simp only [List.getElem?_toArray,List.getElem?_cons_zero,List.getElem?_cons_succ]at y0 y1 y2 y3 y4 y5 y6
   clear hgs HBw HT7 hix
   obtain⟨be,hbe⟩:∃be,bentZ t=be:=⟨_,rfl⟩
   rw [hbe]at HAX
   have HSG:=Lib.hid (rd_of_blk (Blk.fresh w2 3 #[.int .i64 a,.int .i64 b,.int .i64 c0,.int .i64 d,.int .i64 e,.int .i64 be,.int .i64 m]))
   have HOW:=Lib.hid (ownsRow_below HO.out ((Below.refl w2.heap.size w2).alloc (Nat.le_refl _) (.cells #[.int .i64 a,.int .i64 b,.int .i64 c0,.int .i64 d,.int .i64 e,.int .i64 be,.int .i64 m] 3)))
   have HBX:=Lib.hid (HB.out.alloc (by omega) (.cells #[.int .i64 a,.int .i64 b,.int .i64 c0,.int .i64 d,.int .i64 e,.int .i64 be,.int .i64 m] 3))
   have HNX:=Lib.hid (HN.out.alloc (.cells #[.int .i64 a,.int .i64 b,.int .i64 c0,.int .i64 d,.int .i64 e,.int .i64 be,.int .i64 m] 3))
   have hgn:=HN.out.lt
   have HN7:=Lib.hid (show(n+7:Nat)=(k+1)*7 by have:=HNK.out;omega)
   have HI7:=Lib.hid (show Ms.intsV (axesZ f (k+1))=Ms.intsV (axesZ f k)++[.int .i64 a,.int .i64 b,.int .i64 c0,.int .i64 d,.int .i64 e,.int .i64 be,.int .i64 m]by rw [HAX.out];simp [Ms.intsV])
   rcases t with _|_
   ·
    have hbe:(0:Int)=be:=hbe
    subst hbe
    go_wp2_with(at_builtin;go_loud (refine wpList_append_rd _ rfl (.tmp 18) (.tmp 32) 70 rfl (base:=gn+1) Ms.elemInts rfl HOW.out rfl (fun h=>by cases h) HSG.out (by simp [Value.oneCell']) (by unfold maxLen;omega) (by omega) (by simp;omega) ?_);intro A9 c9 w5 hA9 hown2 hg2;have HO5:=Lib.hid hown2;have HN5:=Lib.hid (HNX.out.grown hg2 (fun e=>by have:=(HOW.out.lt _ e.symm).1;omega));have HB5:=Lib.hid (HBX.out.grown hg2 (by simp;omega) (fun g e=>by have:=(HOW.out.lt g e).1;omega));clear hA9 hown2 hg2)
    refine⟨⟨k+1,n+7,A9,c9,by omega,HN7.out,by go_num,rfl,by rw [HI7.out];exact HO5.out,HN5.out,HB5.out⟩,by simp [intOf];omega⟩
   ·
    have hbe:(1:Int)=be:=hbe
    subst hbe
    go_wp2_with(at_builtin;go_loud (refine wpList_append_rd _ rfl (.tmp 18) (.tmp 32) 70 rfl (base:=gn+1) Ms.elemInts rfl HOW.out rfl (fun h=>by cases h) HSG.out (by simp [Value.oneCell']) (by unfold maxLen;omega) (by omega) (by simp;omega) ?_);intro A9 c9 w5 hA9 hown2 hg2;have HO5:=Lib.hid hown2;have HN5:=Lib.hid (HNX.out.grown hg2 (fun e=>by have:=(HOW.out.lt _ e.symm).1;omega));have HB5:=Lib.hid (HBX.out.grown hg2 (by simp;omega) (fun g e=>by have:=(HOW.out.lt g e).1;omega));clear hA9 hown2 hg2)
    refine⟨⟨k+1,n+7,A9,c9,by omega,HN7.out,by go_num,rfl,by rw [HI7.out];exact HO5.out,HN5.out,HB5.out⟩,by simp [intOf];omega⟩
  ·
   obtain rfl:k=3:=by omega
   clear hlt
   rw [show((3:Nat):Int)=3 from rfl]
   obtain rfl:n=21:=HNK.out
   go_wp2_with fail
   go_loop [7,8,9,35] (fun iv_ mv jv xv=>∃k:Nat,k≤4∧xv=.int .i64 (k:Int)∧iv_=.int .i64 ((inZ f k:Nat):Int)∧mv=.int .i64 (octZ 31 f k)∧jv=.int .i64 (octZ 35 f k)) (fun _ _ _ xv=>4-(intOf xv).toNat)
   case atStart=>exact⟨0,by omega,rfl,rfl,rfl,rfl⟩
   case round=>
    obtain⟨k,hk4,rfl,rfl,rfl,rfl⟩:=hrel
    by_cases hlk:k<4
    ·
     have c1: wr.cell? ⟨gn,27+k,none⟩=some (.bool (bv (f (27+k)))):=by rw [HN.out.cell,HC.out _ (by omega),←node_bool HF.out (27+k) (by omega) (by omega)]
     have c2: wr.cell? ⟨gn,31+k,none⟩=some (.int .i64 (iv (f (31+k)))):=by rw [HN.out.cell,HC.out _ (by omega),←node_int HF.out (31+k) (by omega) (by omega)]
     have c3: wr.cell? ⟨gn,35+k,none⟩=some (.int .i64 (iv (f (35+k)))):=by rw [HN.out.cell,HC.out _ (by omega),←node_int HF.out (35+k) (by omega) (by omega)]
     have HLT:=Lib.hid (inZ_lt f k)
     have HIN:=Lib.hid (show inZ f (k+1)=inZ f k+if bv (f (27+k))then 2 ^ k else 0 from rfl)
     have HM1:=Lib.hid (show octZ 31 f (k+1)=IntKind.i64.wrap (IntKind.i64.wrap (octZ 31 f k*8)+iv (f (31+k)))from rfl)
     have HJ1:=Lib.hid (show octZ 35 f (k+1)=IntKind.i64.wrap (IntKind.i64.wrap (octZ 35 f k*8)+iv (f (35+k)))from rfl)
     generalize inZ f k=I at*
     generalize octZ 31 f k=M at*
     generalize octZ 35 f k=J at*
     generalize iv (f (31+k))=x1 at*
     generalize iv (f (35+k))=x2 at*
     have HOR:=Lib.hid (or_in k hlk I HLT.out)
     obtain⟨p1,hp1⟩:∃p,IntKind.i64.wrap (M*8)=p:=⟨_,rfl⟩
     rw [hp1]at HM1
     obtain⟨p2,hp2⟩:∃p,IntKind.i64.wrap (p1+x1)=p:=⟨_,rfl⟩
     rw [hp2]at HM1
     obtain⟨p3,hp3⟩:∃p,IntKind.i64.wrap (J*8)=p:=⟨_,rfl⟩
     rw [hp3]at HJ1
     obtain⟨p4,hp4⟩:∃p,IntKind.i64.wrap (p3+x2)=p:=⟨_,rfl⟩
     rw [hp4]at HJ1
     cases hbv:bv (f (27+k))with
     |false=>
      rw [hbv]at c1 HIN
      have HIN:=Lib.hid (show inZ f (k+1)=I by rw [HIN.out];rfl)
      clear hbv
      go_wp2_with fail
      exact⟨⟨k+1,by omega,by go_num,by rw [HIN.out],by rw [HM1.out],by rw [HJ1.out]⟩,by simp [intOf];omega⟩
     |true=>
      rw [hbv]at c1 HIN
      have HIN:=Lib.hid (show inZ f (k+1)=I+2 ^ k by rw [HIN.out];rfl)
      clear hbv
      obtain rfl|rfl|rfl|rfl:k=0∨k=1∨k=2∨k=3:=by omega
      ·
       have hor:=HOR.out
       simp at hor
       go_wp2_with fail
       exact⟨⟨1,by omega,rfl,by rw [show inZ f 1=I+1 from HIN.out];go_num,by rw [show octZ 31 f 1=p2 from HM1.out],by rw [show octZ 35 f 1=p4 from HJ1.out]⟩,by simp [intOf]⟩
      ·
       have hor:=HOR.out
       simp at hor
       go_wp2_with fail
       exact⟨⟨2,by omega,rfl,by rw [show inZ f 2=I+2 from HIN.out];go_num,by rw [show octZ 31 f 2=p2 from HM1.out],by rw [show octZ 35 f 2=p4 from HJ1.out]⟩,by simp [intOf]⟩
      ·
       have hor:=HOR.out
       simp at hor
       go_wp2_with fail
       exact⟨⟨3,by omega,rfl,by rw [show inZ f 3=I+4 from HIN.out];go_num,by rw [show octZ 31 f 3=p2 from HM1.out],by rw [show octZ 35 f 3=p4 from HJ1.out]⟩,by simp [intOf]⟩
      ·
       have hor:=HOR.out
       simp at hor
       go_wp2_with fail
       exact⟨⟨4,by omega,rfl,by rw [show inZ f 4=I+8 from HIN.out];go_num,by rw [show octZ 31 f 4=p2 from HM1.out],by rw [show octZ 35 f 4=p4 from HJ1.out]⟩,by simp [intOf]⟩
    ·
     obtain rfl:k=4:=by omega
     clear hlk
     rw [show((4:Nat):Int)=4 from rfl]
     have HPZ:=Lib.hid (show Ms.intsV (packZ f)=Ms.intsV (axesZ f 3)++[.int .i64 ((inZ f 4:Nat):Int),.int .i64 (octZ 31 f 4),.int .i64 (octZ 35 f 4)]by unfold packZ;simp [Ms.intsV])
     obtain⟨I,hI⟩:∃I:Int,((inZ f 4:Nat):Int)=I:=⟨_,rfl⟩
     obtain⟨M,hM⟩:∃I:Int,octZ 31 f 4=I:=⟨_,rfl⟩
     obtain⟨J,hJ⟩:∃I:Int,octZ 35 f 4=I:=⟨_,rfl⟩
     rw [hI,hM,hJ]at HPZ
     rw [hI,hM,hJ]
     clear hI hM hJ HNK
     have hgn:=HN.out.lt
     have HSG:=Lib.hid (rd_of_blk (Blk.fresh wr 3 #[.int .i64 I,.int .i64 M,.int .i64 J]))
     have HOW:=Lib.hid (ownsRow_below HO.out ((Below.refl wr.heap.size wr).alloc (Nat.le_refl _) (.cells #[.int .i64 I,.int .i64 M,.int .i64 J] 3)))
     have HBX:=Lib.hid (HB.out.alloc (by omega) (.cells #[.int .i64 I,.int .i64 M,.int .i64 J] 3))
     go_wp2_with(at_builtin;go_loud (refine wpList_append_rd _ rfl (.tmp 65) (.tmp 69) 70 rfl (base:=gn+1) Ms.elemInts rfl HOW.out rfl (fun h=>by cases h) HSG.out (by simp [Value.oneCell']) (by unfold maxLen;omega) (by omega) (by simp;omega) ?_);intro A9 c9 w5 hA9 hown2 hg2;have HO5:=Lib.hid hown2;have HB5:=Lib.hid (HBX.out.grown hg2 (by simp;omega) (fun g e=>by have:=(HOW.out.lt g e).1;omega));clear hA9 hown2 hg2)
     go_ret
     refine⟨A9,c9,rfl,?_,by rw [HGN.out];exact HB5.out⟩
     rw [HPZ.out,HGN.out]
     exact own_weaken HO5.out (by omega)
end Nd
namespace Nd
open Go.RowKit Mem Rws Flat Sm SumLaw Wr
def digestZ (f:Nat→Value):Int:=more 0 (vals (packZ f))
def DigI (base:Nat) (w wr:World) (zs:List Int) (i:Nat) (sv:Value):Prop:=
 ∃(A:Option Addr) (c:Nat),sv=.slice A (8*i) c∧wr.ownsRow base 5 1 (.slice A (8*i) c) (8*i) (bytesV (vals (zs.take i)))∧Below base w wr
theorem vals_len (zs:List Int) {i:Nat} (h:i≤zs.length):(vals (zs.take i)).length=8*i:=by rw [vals_length,List.length_take];omega
set_option maxRecDepth 100000 in
set_option maxHeartbeats 2000000 in
theorem digest_any (f:Nat→Value) (hf:∀i,i<73→okT (nodeT i) (f i)) (S:Value) (w:World):
  Calls Tryz.prog 38 #[.agg (row 74 (nodeW f S))] w fun e w'=>e=.returned (.int .i64 (digestZ f))∧Below w.heap.size w w':=by
 have HF:=Lib.hid hf
 have hi74:(Tryz.prog.info? 39).map (·.size)=some (row 74 (nodeW f S)).size:=by rw [row_size];kernel_rfl
 have H1:=Lib.hid (Blk.fresh w 39 (row 74 (nodeW f S)))
 have HB:=Lib.hid ((Below.refl w.heap.size w).alloc (Nat.le_refl _) (.cells (row 74 (nodeW f S)) 39))
 obtain⟨R,hR⟩:∃R,row 74 (nodeW f S)=R:=⟨_,rfl⟩
 have HR:=Lib.hid hR
 rw [hR]at hi74 H1 HB ⊢
 clear hR hf
 go_enter Tryz.func38,Tryz.ntmps38
 go_wp2_with(refine wpList_whole rfl 39 _ rfl w.heap.size rfl H1.out _ Tryz.underlying39 rfl hi74 ?_)
 rw [←HR.out]
 refine(pack_any f HF.out S _).mono ?_
 rintro e w1 ⟨AP,cp,rfl,hpo,hb⟩
 rw [HR.out]
 have HD:=Lib.hid (show digestZ f=more 0 (vals (packZ f))from rfl)
 have hzl:=packZ_len f
 obtain⟨zs,hzs⟩:∃zs,packZ f=zs:=⟨_,rfl⟩
 rw [hzs]at hpo HD hzl
 have HP:=Lib.hid (Rd.of_own hpo)
 have HL:=Lib.hid hzl
 have HB:=Lib.hid (by rw [HR.out]at hb;exact onward HB.out (Nat.le_refl _) hb)
 clear hpo hb hzs hzl H1 hi74
 go_wp2_with fail
 go_loopw [3,10] (fun sv si wr=>∃i:Nat,i≤24∧si=.int .i64 i∧DigI w1.heap.size w1 wr zs i sv) (fun _ si _=>24-(intOf si).toNat)
 case atStart=>exact⟨0,by omega,rfl,none,0,rfl,World.ownsRow_nil _ _ _ _,Below.refl _ _⟩
 case round=>
  obtain⟨i,hi_,rfl,A,c,rfl,hown,hbel⟩:=hrel
  have HO:=Lib.hid hown
  have HW:=Lib.hid hbel
  clear hown hbel
  by_cases hlt:i<24
  ·
   obtain⟨b,o,u,rfl,hbB,hu,hcell⟩:=(HP.out.below HW.out).at hlt
   have hlz:i<zs.length:=by rw [HL.out];exact hlt
   rw [Ms.intsV_at zs i hlz]at hu
   obtain rfl:=Option.some.inj hu
   have HV:=Lib.hid (vals_take zs i hlz)
   generalize zs[i]=v at*
   have hl0:(0:Int)≤(i:Int):=by omega
   have hl1:(i:Int)<24:=by omega
   have HI:=Lib.hid hlt
   have HX:=Lib.hid (vals_len zs (Nat.le_of_lt hlz))
   clear hu hlz hlt
   obtain⟨xs,hxs⟩:∃xs,vals (zs.take i)=xs:=⟨_,rfl⟩
   rw [hxs]at HO HV HX
   rw [←HX.out]at HO
   rw [show(8*i)=xs.length from HX.out.symm]
   clear hxs
   go_wp2_with fail
   generalize wr=wq at*
   go_loopw [3,6] (fun sv si wr=>PutAt w1.heap.size wq wr xs v 8 sv si) (fun _ i _=>(intOf i+1).toNat)
   case atStart=>exact⟨8,[],A,c,Nat.le_refl _,rfl,rfl,by rw [List.append_nil],by rw [List.append_nil];exact HO.out,Below.refl _ _⟩
   case round=>
    obtain⟨j,P,A1,c1,hj,hP,rfl,rfl,hown,hbel⟩:=hrel
    have HPP:=Lib.hid hP
    have HW2:=Lib.hid hown
    have hsz:=hbel.size
    have hsz1:=HW.out.size
    have hlen:(xs++P).length+j=xs.length+8:=by
     have:=congrArg List.length hP
     simp only [List.length_append,hi_length]at this ⊢
     omega
    have hxl:xs.length≤200:=by have:=HX.out;have:=HI.out;omega
    obtain⟨m,hm⟩:∃m,(xs++P).length=m:=⟨_,rfl⟩
    rw [hm]at HW2 hlen ⊢
    have HM:=Lib.hid hm
    clear hP hown hm
    by_cases h0:j=0
    ·
     subst h0
     have HE:=Lib.hid (show xs++hi v 8=xs++P by rw [←HPP.out];simp [hi])
     have HN:=Lib.hid (show m=8*(i+1)by have:=HX.out;omega)
     rw [HN.out]at HW2 ⊢
     go_wp2_with fail
     exact⟨⟨i+1,by have:=HI.out;omega,by go_num,A1,c1,rfl,by rw [HV.out,HE.out];exact HW2.out,HW.out.trans hbel⟩,by have:=HI.out;simp [intOf];omega⟩
    ·
     obtain⟨q,rfl⟩:∃i,j=i+1:=⟨j-1,by omega⟩
     have e1:((q+1:Nat):Int)-1=(q:Int):=by omega
     rw [e1]
     clear e1 h0
     have e2:(8*(q:Int)).toNat=8*q:=by omega
     have e3:IntKind.u8.wrap (v/2 ^ (8*q))=((hb v q:Nat):Int):=by rw [shr_pow,hb_int];simp [IntKind.wrap,IntKind.bits,IntKind.signed]
     go_wp2_with(at_builtin;refine wpList_append_rd _ rfl (.tmp 18) (.tmp 25) 58 rfl elemBytes rfl (HW2.out.alloc _) rfl (by simp) (rd_one _ _ _) (by simp [Value.oneCell']) (by unfold maxLen;omega) (by omega) (by simp;omega) ?_;intro A2 c2 w4 hA2 hown2 hg2)
     have hb4:=Below.grown (hbel.alloc (Nat.le_trans hsz1 hsz) (.cells #[.int .u8 ((hb v q:Nat):Int)] 5)) hg2 (by simp;omega) (fun g e=>(HW2.out.lt g e).1)
     have hlen2:(xs++(P++[hb v q])).length=m+1:=by rw [←List.append_assoc,List.length_append,HM.out];rfl
     refine⟨⟨q,P++[hb v q],A2,c2,by omega,by rw [←HPP.out,List.append_assoc];rfl,rfl,by rw [hlen2],?_,hb4⟩,by simp [intOf]⟩
     rw [hlen2,←List.append_assoc,bytesV_append]
     exact hown2
  ·
   obtain rfl:i=24:=by omega
   rw [show((24:Nat):Int)=24 from rfl]
   have e8:8*24=(vals zs).length:=by rw [vals_length,HL.out]
   have et:zs.take 24=zs:=List.take_of_length_le (by rw [HL.out];omega)
   rw [et,e8]at HO
   rw [e8]
   have C:=Lib.hid (sum_any A c (vals zs) wr.heap.size wr (Nat.le_refl _) (by rw [←e8];omega) (vals_small zs) (Rd.of_own HO.out))
   rw [←HD.out]at C
   clear e8 et hlt
   obtain⟨L,hL⟩:∃L,(vals zs).length=L:=⟨_,rfl⟩
   rw [hL]at C ⊢
   clear hL
   go_wp2_with fail
   refine C.out.mono ?_
   rintro e w5 ⟨rfl,hb⟩
   have HB:=Lib.hid (onward (HB.out.trans (HW.out.mono HB.out.size)) (Nat.le_refl _) hb)
   clear hb
   go_wp2_with fail
   go_ret
   exact⟨rfl,HB.out⟩
end Nd
namespace Nd
open Go.RowKit Mem Rws Flat
theorem run_index_slices (s:Nat→Value) (k:Nat) (hk:k<4) (w:World):(Instr.index 98 (.agg (row 4 s)) (.int .i64 (k:Int))).run Tryz.prog w=.ok (s k) w:=
 run_index_row Tryz.underlying98 Tryz.underlying70 rfl (by kernel_rfl) s k hk w
set_option maxRecDepth 100000 in
set_option maxHeartbeats 4000000 in
theorem pass_any (f:Nat→Value) (hf:∀i,i<73→okT (nodeT i) (f i)) (k:Nat) (hk:k<4) (hid:f 0=.int .i64 (k:Int)) (fr:Int) (hfr:f 1=.int .i64 fr) (A:Option Addr) (c:Nat) (bs:List Bool) (AI:Option Addr) (ci:Nat) (ms:List Ms.Msg) (B:Nat) (w:World) (hB:B≤w.heap.size) (hA:A=none→c=0) (hnc:bs.length≤c) (hl:bs.length≤140737488351232) (hr:Rd w B 1 A bs.length (boolsV bs)) (hml:ms.length≤140737488355328) (hm:Ms.MsgsAt w B AI ms):
  Calls Tryz.prog 18 #[.agg (row 74 (nodeW f (.slice A bs.length c))),.slice AI ms.length ci] w fun e w'=>NodeMsg w w' (passK f (passV (k:Int) fr ms) 4) bs 2 (k:Int) fr (hvs (passK f (passV (k:Int) fr ms) 4)) e:=by
 have hone:∀(A:Option Addr) (n c:Nat),(row 74 (nodeW f (.slice A n c))).all (·.oneCell')=true:=fun A n c=>one_of hf
 have HO:=Lib.hid hone
 have HF:=Lib.hid hf
 have HID:=Lib.hid hid
 have HFR:=Lib.hid hfr
 clear hf hone hid hfr
 go_enter Tryz.func18,Tryz.ntmps18
 go_upto_region 1 with fail
 have D3:Hid (Blk (((w.alloc (.cells (row 74 (nodeW f (.slice A bs.length c))) 39)).alloc (.cells Tryz.zeroCells39 39)).alloc (.cells #[.int .i64 0,.int .i64 0,.int .i64 0,.slice none 0 0] 72)) w.heap.size 39 (row 74 (nodeW f (.slice A bs.length c)))):=Lib.hid (((Blk.new rfl).alloc _).alloc _)
 have D6:Hid (Blk (((w.alloc (.cells (row 74 (nodeW f (.slice A bs.length c))) 39)).alloc (.cells Tryz.zeroCells39 39)).alloc (.cells #[.int .i64 0,.int .i64 0,.int .i64 0,.slice none 0 0] 72)) (w.heap.size+1) 39 Tryz.zeroCells39):=Lib.hid ((Blk.new (by simp)).alloc _)
 have D7:Hid (Blk (((w.alloc (.cells (row 74 (nodeW f (.slice A bs.length c))) 39)).alloc (.cells Tryz.zeroCells39 39)).alloc (.cells #[.int .i64 0,.int .i64 0,.int .i64 0,.slice none 0 0] 72)) (w.heap.size+1+1) 72 #[.int .i64 0,.int .i64 0,.int .i64 0,.slice none 0 0]):=Lib.hid (Blk.new (by simp))
 have HB:=Lib.hid (((((Below.refl w.heap.size w).alloc (Nat.le_refl _) (.cells (row 74 (nodeW f (.slice A bs.length c))) 39)).alloc (by simp) (.cells Tryz.zeroCells39 39)).alloc (by simp;omega) (.cells #[.int .i64 0,.int .i64 0,.int .i64 0,.slice none 0 0] 72)))
 have HR:=Lib.hid hr
 have HMS:=Lib.hid hm
 clear hr hm
 generalize(((w.alloc (.cells (row 74 (nodeW f (.slice A bs.length c))) 39)).alloc (.cells Tryz.zeroCells39 39)).alloc (.cells #[.int .i64 0,.int .i64 0,.int .i64 0,.slice none 0 0] 72))=W at*
 have hi74:∀A (n:Nat) c,(Tryz.prog.info? 39).map (·.size)=some (row 74 (nodeW f (.slice A n c))).size:=fun A n c=>by rw [row_size];kernel_rfl
 have HI:=Lib.hid hi74
 clear hi74
 have hwz:w.heap.size+1+1<W.heap.size:=D7.out.lt
 have hia:=HI.out A bs.length c
 obtain⟨R1,hR1⟩:∃R1,row 74 (nodeW f (.slice A bs.length c))=R1:=⟨_,rfl⟩
 have HR1:=Lib.hid hR1
 rw [hR1]at D3 hia
 clear hR1
 go_wp2_with(refine wpList_whole rfl 39 _ rfl w.heap.size rfl D3.out _ Tryz.underlying39 rfl hia ?_)
 rw [←HR1.out]
 refine(copied_any f HF.out A c bs B _ (Nat.le_trans hB HB.out.size) hA hnc hl (HR.out.below (HB.out.mono hB))).mono ?_
 rintro e w1 ⟨A2,c2,rfl,hown,hb1⟩
 rw [HR1.out]
 have HW1:=Lib.hid hown
 have HB1:=Lib.hid (onward HB.out (Nat.le_refl _) hb1)
 have hsz:=hb1.size
 have hi2:=HI.out A2 bs.length c2
 have h12:=HO.out A2 bs.length c2
 have h20:(row 74 (nodeW f (.slice A2 bs.length c2)))[0]?=some (.int .i64 (k:Int)):=by rw [row_at (by omega)];exact congrArg some HID.out
 have h21:(row 74 (nodeW f (.slice A2 bs.length c2)))[1]?=some (.int .i64 fr):=by rw [row_at (by omega)];exact congrArg some HFR.out
 have hs2:R1.size=(row 74 (nodeW f (.slice A2 bs.length c2))).size:=by rw [←HR1.out,row_size,row_size]
 obtain⟨R2,hR2⟩:∃R2,row 74 (nodeW f (.slice A2 bs.length c2))=R2:=⟨_,rfl⟩
 have HR2:=Lib.hid hR2
 rw [hR2]at hi2 h12 h20 h21 hs2 ⊢
 clear hR2
 have E3:=Lib.hid (D3.out.below hb1 D3.out.lt)
 have F3:=Lib.hid (E3.out.setRow R2)
 have F6:=Lib.hid ((D6.out.below hb1 D6.out.lt).setRow_other (g':=w.heap.size) (by omega) R2)
 have F7:=Lib.hid ((D7.out.below hb1 D7.out.lt).setRow_other (g':=w.heap.size) (by omega) R2)
 have HB2:=Lib.hid (below_setRow HB1.out (Nat.le_refl _) R2)
 have HW2:=Lib.hid (own_setRow HW1.out (show w.heap.size<W.heap.size by omega) R2)
 have cT:=fun w=>strange_any R2 (k:Int) h20 w
 have hk0:¬((k:Int)<0):=by omega
 have hbk:badId (k:Int)=false:=by unfold badId;simp;omega
 rw [hbk]at cT
 clear hb1 hown hbk
 go_upto_region 4 with(first
  |(refine wpList_store_row rfl 39 _ _ rfl w.heap.size R2 rfl rfl 39 _ E3.out hi2 hs2 h12 ?_)
  |(refine wpList_whole rfl 39 _ rfl w.heap.size rfl F3.out _ Tryz.underlying39 rfl hi2 ?_)
  |(go_at_call 31;refine(cT _).mono ?_;rintro e w3 ⟨rfl,hb3⟩;have G3:=Lib.hid (F3.out.below hb3 F3.out.lt);have G6:=Lib.hid (F6.out.below hb3 F6.out.lt);have G7:=Lib.hid (F7.out.below hb3 F7.out.lt);have HB3:=Lib.hid (onward HB2.out (Nat.le_refl _) hb3);have HW3:=Lib.hid (ownsRow_below HW2.out hb3);have hz3:=Nat.le_trans hsz (Nat.le_trans (show w1.heap.size≤(w1.setRow w.heap.size R2).heap.size from(below_setRow (Below.refl 0 w1) (Nat.zero_le _) R2).size) hb3.size);clear hb3))
 clear HB HB1 HB2 HW1 HW2 D3 D6 D7 E3 F3 F6 F7 cT hs2
 have HNL:=Lib.hid hnc
 have cH:=Ms.hear_any R2 (k:Int) fr h20 h21 AI ci ms 3 1 (by omega) B w3 (Nat.le_trans hB HB3.out.size) hml (HMS.out.below (HB3.out.mono hB))
 rw [show((1:Nat):Int)=1 from rfl]at cH
 have CH:=Lib.hid cH
 clear cH
 go_wp2_with(refine wpList_whole rfl 39 _ rfl w.heap.size rfl G3.out _ Tryz.underlying39 rfl hi2 ?_)
 refine CH.out.mono ?_
 rintro e w4 ⟨s,rfl,hs,hb⟩
 have hix:=fun(j:Nat) (hj:j<4) (w:World)=>run_index_slices s j hj w
 have HIX:=Lib.hid hix
 generalize row 4 s=R4 at*
 have G3:=Lib.hid (G3.out.below hb G3.out.lt)
 have G6:=Lib.hid (G6.out.below hb G6.out.lt)
 have G7:=Lib.hid (G7.out.below hb G7.out.lt)
 have HW:=Lib.hid (ownsRow_below HW3.out hb)
 have HB4:=Lib.hid (onward HB3.out (Nat.le_refl _) hb)
 have HS:=Lib.hid (fun i hi=>(hs i hi).keep (base':=W.heap.size) fun n xs h=>own_weaken h hz3)
 rw [←HR2.out]at G3
 clear hs hb HW3 HB3 CH h12 hi2 hix
 obtain⟨pv,hpv⟩:∃pv,passV (k:Int) fr ms=pv:=⟨_,rfl⟩
 have HQV:=Lib.hid hpv
 have HPV:=Lib.hid (fun j:Nat=>show pv j=(Ms.firstOf (k:Int) fr 3 1 (j:Int) ms).map (fun m=>m.zs.getD 0 0)by rw [←hpv];rfl)
 clear hpv
 go_wp2_with fail
 go_loopw [17] (fun i wr=>∃j:Nat,j≤4∧i=.int .i64 j∧Blk wr w.heap.size 39 (row 74 (nodeW (passK f pv j) (.slice A2 bs.length c2)))∧Blk wr (w.heap.size+1) 39 Tryz.zeroCells39∧Blk wr (w.heap.size+1+1) 72 #[.int .i64 0,.int .i64 0,.int .i64 0,.slice none 0 0]∧wr.ownsRow W.heap.size 4 1 (.slice A2 bs.length c2) bs.length (boolsV bs)∧(∀i:Nat,i<4→Ms.HeardAs wr W.heap.size (Ms.firstOf (k:Int) fr 3 1 (i:Int) ms) (s i))∧Below w.heap.size w wr) (fun i _=>4-(intOf i).toNat)
 case atStart=>exact⟨0,by omega,rfl,by rw [passK_zero];exact G3.out,G6.out,G7.out,HW.out,HS.out,HB4.out⟩
 case round=>
  clear G3 G6 G7 HW HS HB4
  obtain⟨j,hj,rfl,g3,g6,g7,hw,hs,hb⟩:=hrel
  have G3:=Lib.hid g3
  have G6:=Lib.hid g6
  have G7:=Lib.hid g7
  have HW:=Lib.hid hw
  have HS:=Lib.hid hs
  have HB:=Lib.hid hb
  clear g3 g6 g7 hw hs hb
  by_cases hlt:j<4
  ·
   have hix:=fun w=>HIX.out j hlt w
   have hsj:=HS.out j hlt
   have hpj:=HPV.out j
   cases ho:Ms.firstOf (k:Int) fr 3 1 (j:Int) ms with
   |none=>
    rw [ho]at hsj hpj
    rw [show s j=.slice none 0 0 from hsj]at hix
    have HPJ:=Lib.hid (show pv j=none from hpj)
    clear hsj hpj ho
    go_wp2_with fail
    exact⟨⟨j+1,by omega,by go_num,by rw [passK_none f pv j _ HPJ.out];exact G3.out,G6.out,G7.out,HW.out,HS.out,HB.out⟩,by simp [intOf];omega⟩
   |some m=>
    have hzl:=fit_len ho
    rw [ho]at hsj hpj
    obtain⟨a,ca,hsv,how⟩:=hsj
    rw [hsv]at hix how
    obtain⟨b,o,u,e1,hbB,hu,hcell⟩:=(Rd.of_own how).at (show 0<m.zs.length by omega)
    injection e1 with e1
    subst e1
    obtain⟨z,hz⟩:∃z,m.zs=[z]:=by
     match hq:m.zs,hzl with
     |[z],_=>exact⟨z,rfl⟩
    have hpj:pv j=some (m.zs.getD 0 0):=hpj
    rw [hz]at hu hpj hix
    have hu:u=.int .i64 z:=by simpa [Ms.intsV] using hu.symm
    subst hu
    have HPJ:=Lib.hid (show pv j=some z from hpj)
    have hcell: wr.cell? ⟨b,o,none⟩=some (.int .i64 z):=hcell
    have x5: wr.cell? ⟨w.heap.size,51+j,none⟩=some (nodeW (passK f pv j) (.slice A2 bs.length c2) (51+j)):=by rw [G3.out.cell,row_at (by omega)]
    have f5:=G3.out.thaw (51+j)
    have hlen:([z]:List Int).length=1:=rfl
    rw [hlen]at hix
    clear hsv how hu hpj ho hz hzl hlen
    go_wp2_with fail
    refine⟨⟨j+1,by omega,by go_num,?_,G6.out.other (p:=⟨w.heap.size,51+j,none⟩) (by show w.heap.size+1≠w.heap.size;omega) _,G7.out.other (p:=⟨w.heap.size,51+j,none⟩) (by show w.heap.size+1+1≠w.heap.size;omega) _,Vt.own_setCell HW.out (by omega) _,fun i hi=>(HS.out i hi).keep fun n xs h=>Vt.own_setCell h (by omega) _,HB.out.setCell (p:=⟨w.heap.size,51+j,none⟩) (Nat.le_refl _) _⟩,by simp [intOf];omega⟩
    rw [←passK_some f pv j hlt _ HPJ.out]
    exact G3.out.set (51+j) _
  ·
   obtain rfl:j=4:=by omega
   clear hlt
   rw [show((4:Nat):Int)=4 from rfl]
   have HOK:=Lib.hid (ok_pass HF.out pv 4 (Nat.le_refl _))
   have o5:=one_of HOK.out (A:=A2) (n:=bs.length) (c:=c2)
   have i5:(Tryz.prog.info? 39).map (·.size)=some (row 74 (nodeW (passK f pv 4) (.slice A2 bs.length c2))).size:=by rw [row_size];kernel_rfl
   have z5:(Tryz.zeroCells39).size=(row 74 (nodeW (passK f pv 4) (.slice A2 bs.length c2))).size:=by rw [row_size];kernel_rfl
   have j0:(row 74 (nodeW (passK f pv 4) (.slice A2 bs.length c2)))[0]?=some (.int .i64 (k:Int)):=by rw [row_at (by omega)];exact congrArg some ((passK_low f pv 4 0 (by omega)).trans HID.out)
   have j1:(row 74 (nodeW (passK f pv 4) (.slice A2 bs.length c2)))[1]?=some (.int .i64 fr):=by rw [row_at (by omega)];exact congrArg some ((passK_low f pv 4 1 (by omega)).trans HFR.out)
   obtain⟨R5,hR5⟩:∃R5,row 74 (nodeW (passK f pv 4) (.slice A2 bs.length c2))=R5:=⟨_,rfl⟩
   rw [hR5]at o5 i5 z5 j0 j1 G3
   have HR5:=Lib.hid hR5
   clear hR5
   go_upto_region 10 with fail
   have G3:=Lib.hid G3.out.drew
   have G6:=Lib.hid G6.out.drew
   have G7:=Lib.hid G7.out.drew
   have HW:=Lib.hid (ownsRow_below HW.out ((Below.refl wr.heap.size wr).drew))
   have HB:=Lib.hid HB.out.drew
   clear HS
   have HS:=G3.out
   refine wp_region_noPanic ?_
   refine Rg.beginR [0,1] (fun w'=>Blk w' w.heap.size 39 R5) (by kernel_rfl) ?_
   generalize wr.drew=V0 at*
   refine Rg.stp_s 0 (.agg R5) HS (hy:=?_) (h:=?_)
   · (intro w' hSw;exact exec_load_row 39 _ rfl _ rfl hSw Tryz.underlying39 rfl i5)
   try simp only [Rg.lp]
   refine Rg.stp_s 1 (.agg R5) HS (hy:=?_) (h:=?_)
   · (intro w' hSw;exact exec_load_row 39 _ rfl _ rfl hSw Tryz.underlying39 rfl i5)
   try simp only [Rg.lp]
   refine Rg.tp 2 ⟨some 32,.fieldAddr 39 (.tmp 2) 6,_,_,_,none⟩ (v:=?_) rfl ?_ ?_
   rotate_left 1
   · (intro w;go_simp;(try with_reducible rfl))
   try simp only [Rg.lp]
   refine Rg.tp 3 ⟨some 33,.slice 30 (.tmp 32) none none none,_,_,_,none⟩ (v:=?_) rfl ?_ ?_
   rotate_left 1
   · (intro w;go_simp;(try with_reducible rfl))
   try simp only [Rg.lp]
   refine Rg.stp_o 4 ?_
   refine Rg.stepS ?_
   intro K hK
   rw [if_pos (by rfl)]
   go_simp
   go_at_call 32
   refine(say_any R5 (k:Int) fr 2 (some ⟨w.heap.size,51,none⟩) 4 4 j0 j1 V0).mono ?_
   rintro e V1 ⟨rfl,hb⟩
   have G3:=Lib.hid (G3.out.below hb G3.out.lt)
   have G6:=Lib.hid (G6.out.below hb G6.out.lt)
   have G7:=Lib.hid (G7.out.below hb G7.out.lt)
   have HW:=Lib.hid (ownsRow_below HW.out hb)
   have HB:=Lib.hid (onward HB.out (Nat.le_refl _) hb)
   clear hb HS
   have HS:=G3.out
   go_wp2_with fail
   refine hK.out _ _ HS ?_
   clear hK K
   try simp only [Rg.lp]
   refine Rg.stp_o 5 ?_
   refine Rg.stepF ?_ ?_
   · kernel_rfl
   intro K hK
   rw [if_pos (by rfl)]
   refine wp_store_row 39 _ _ rfl (w.heap.size+1) R5 rfl rfl 39 _ G6.out i5 z5 o5 ?_
   have G3:=Lib.hid (G3.out.setRow_other (g':=w.heap.size+1) (by omega) R5)
   have G7:=Lib.hid (G7.out.setRow_other (g':=w.heap.size+1) (by omega) R5)
   have G6:=Lib.hid (G6.out.setRow R5)
   have HB:=Lib.hid (below_setRow HB.out (show w.heap.size≤w.heap.size+1 by omega) R5)
   have HW:=Lib.hid (own_setRow HW.out (show w.heap.size+1<W.heap.size by omega) R5)
   generalize(V1.setRow (w.heap.size+1) R5)=V2 at*
   refine hK.out _ _ ?_
   clear hK K
   try simp only [Rg.lp]
   refine Rg.stp_o 6 ?_
   refine Rg.stepF ?_ ?_
   · kernel_rfl
   intro K hK
   rw [if_pos (by rfl)]
   refine wp_store_row 72 _ _ rfl (w.heap.size+1+1) (Ms.msgC 2 (k:Int) fr (some ⟨w.heap.size,51,none⟩) 4 4) rfl rfl 72 _ G7.out (by kernel_rfl) rfl (by simp [Ms.msgC,Value.oneCell']) ?_
   have G3:=Lib.hid (G3.out.setRow_other (g':=w.heap.size+1+1) (by omega) (Ms.msgC 2 (k:Int) fr (some ⟨w.heap.size,51,none⟩) 4 4))
   have G6:=Lib.hid (G6.out.setRow_other (g':=w.heap.size+1+1) (by omega) (Ms.msgC 2 (k:Int) fr (some ⟨w.heap.size,51,none⟩) 4 4))
   have G7:=Lib.hid (G7.out.setRow (Ms.msgC 2 (k:Int) fr (some ⟨w.heap.size,51,none⟩) 4 4))
   have HB:=Lib.hid (below_setRow HB.out (show w.heap.size≤w.heap.size+1+1 by omega) (Ms.msgC 2 (k:Int) fr (some ⟨w.heap.size,51,none⟩) 4 4))
   have HW:=Lib.hid (own_setRow HW.out (show w.heap.size+1+1<W.heap.size by omega) (Ms.msgC 2 (k:Int) fr (some ⟨w.heap.size,51,none⟩) 4 4))
   generalize(V2.setRow (w.heap.size+1+1) (Ms.msgC 2 (k:Int) fr (some ⟨w.heap.size,51,none⟩) 4 4))=V3 at*
   refine hK.out _ _ ?_
   clear hK K
   try simp only [Rg.lp]
   refine Rg.doneR (by kernel_rfl) ?_ _
   refine NoPanic.normal ?_
   clear HS
   go_wp2_with fail
   have hi4:(Tryz.prog.info? 72).map (·.size)=some (Ms.msgC 2 (k:Int) fr (some ⟨w.heap.size,51,none⟩) 4 4).size:=by kernel_rfl
   refine ret_rows2 rfl rfl rfl G6.out ⟨by rw [Tryz.underlying39],i5⟩ G7.out ⟨by rw [Tryz.underlying72],hi4⟩ rfl ⟨A2,c2,some ⟨w.heap.size,51,none⟩,4,by rw [HQV.out,HR5.out];rfl,Rd.of_own HW.out,?_,HB.out,fun a h=>Nat.le_trans (by omega) (own_lo HW.out a h),(fun a h=>by cases h;exact Nat.le_refl _),own_cap HW.out⟩
   rw [HQV.out]
   have h3:=G3.out
   rw [←HR5.out]at h3
   exact(rd_heard HOK.out h3).more (by have:=G3.out.lt;omega)
end Nd
namespace Nd
open Go.RowKit Mem Rws Flat
def kindV:Value→Option Bool
 | .int .i64 _=>some true
 | .bool _=>some false
 |_=>none
theorem ok_kind {v:Value} {b:Bool} (h:kindV v=some b):okT b v:=by
 unfold kindV at h
 split at h
 · cases h;exact⟨_,rfl⟩
 · cases h;exact⟨_,rfl⟩
 · cases h
theorem ok_rows {f:Nat→Value} (h:(List.range 73).map (fun i=>kindV (f i))=(List.range 73).map (fun i=>some (nodeT i))):∀i,i<73→okT (nodeT i) (f i):=fun i hi=>by
 have h1:=congrArg (·[i]?) h
 simp [hi]at h1
 exact ok_kind h1
theorem ok_node (id t0 t1 t2 t3:Int):∀i,i<73→okT (nodeT i) (nodeK id t0 t1 t2 t3 3 i):=ok_rows (by kernel_rfl)
end Nd
namespace MajLaw
def vstep (s:Nat×Int) (v:Int):Nat×Int:=if s.1=0 then(1,v)else if v=s.2 then(s.1+1,s.2)else(s.1-1,s.2)
def left (l:List Int):Nat×Int:=l.foldl vstep (0,0)
def cnt (x:Int) (l:List Int):Nat:=l.count x
theorem left_snoc (l:List Int) (v:Int):left (l++[v])=vstep (left l) v:=by simp [left]
theorem cnt_snoc (x:Int) (l:List Int) (v:Int):cnt x (l++[v])=cnt x l+if v=x then 1 else 0:=by
 unfold cnt
 rw [List.count_append,List.count_singleton]
 simp
theorem cnt_le (x:Int) (l:List Int):cnt x l≤l.length:=List.count_le_length
theorem left_inv (l:List Int):∀x,2*cnt x l+(left l).1≤l.length+(if x=(left l).2 then 2*(left l).1 else 0):=by
 suffices h:∀(r:List Int),(∀x,2*cnt x r.reverse+(left r.reverse).1≤r.reverse.length+(if x=(left r.reverse).2 then 2*(left r.reverse).1 else 0))by
  have:=h l.reverse
  rwa [List.reverse_reverse]at this
 intro r
 induction r with
 |nil=>intro x;simp [cnt,left]
 |cons v r ih=>
  intro x
  have h:=ih x
  have hv:=ih v
  rw [List.reverse_cons,left_snoc,cnt_snoc,List.length_append,List.length_singleton]
  generalize left r.reverse=s at h hv ⊢
  obtain⟨n,a⟩:=s
  simp only at h hv ⊢
  unfold vstep
  simp only
  by_cases h0:n=0
  ·
   subst h0
   rw [if_pos rfl]
   by_cases e:v=x
   · subst e;simp at*;omega
   · rw [if_neg e];simp [Ne.symm e]at*;omega
  ·
   rw [if_neg h0]
   by_cases e1:v=a
   ·
    subst e1
    rw [if_pos rfl]
    by_cases e:v=x
    · subst e;simp at*;omega
    · rw [if_neg e];simp [Ne.symm e]at*;omega
   ·
    rw [if_neg e1]
    by_cases e:v=x
    ·
     subst e
     rw [if_pos rfl];simp [e1]at*;omega
    ·
     rw [if_neg e]
     by_cases e2:x=a
     · subst e2;simp at*;omega
     · simp [e2]at*;omega
def maj (l:List Int) (other:Int):Int:=if l.length<2*cnt (left l).2 l then(left l).2 else other
theorem left_of_more {l:List Int} {x:Int} (h:l.length<2*cnt x l):(left l).2=x:=by
 have:=left_inv l x
 by_cases e:x=(left l).2
 · exact e.symm
 · rw [if_neg e]at this;omega
theorem maj_found {l:List Int} {x o:Int} (h:l.length<2*cnt x l):maj l o=x:=by
 have e:=left_of_more h
 unfold maj;rw [e,if_pos h]
theorem maj_none {l:List Int} {o:Int} (h:∀i (hi:i<l.length),¬l.length<2*cnt l[i] l):maj l o=o:=by
 unfold maj
 refine if_neg fun hm=>?_
 have h0:0<cnt (left l).2 l:=by omega
 obtain⟨i,hi,e⟩:=List.getElem_of_mem (List.count_pos_iff.1 h0)
 exact h i hi (by rw [e];exact hm)
theorem left_take (l:List Int) (k:Nat) (hk:k<l.length):left (l.take (k+1))=vstep (left (l.take k)) l[k]:=by
 rw [List.take_succ_eq_append_getElem hk,left_snoc]
theorem left_le (l:List Int):(left l).1≤l.length:=by
 have h:=left_inv l ((left l).2+1)
 rw [if_neg (by omega)]at h
 omega
theorem cnt_take (x:Int) (l:List Int) (k:Nat) (hk:k<l.length):cnt x (l.take (k+1))=cnt x (l.take k)+if l[k]=x then 1 else 0:=by
 rw [List.take_succ_eq_append_getElem hk,cnt_snoc]
theorem vstep_zero {n:Nat} {a v:Int} (h:n=0):vstep (n,a) v=(1,v):=by unfold vstep;rw [if_pos h]
theorem vstep_same {n:Nat} {a v:Int} (h:n≠0) (e:v=a):vstep (n,a) v=(n+1,a):=by unfold vstep;rw [if_neg h,if_pos e]
theorem vstep_other {n:Nat} {a v:Int} (h:n≠0) (e:v≠a):vstep (n,a) v=(n-1,a):=by unfold vstep;rw [if_neg h,if_neg e]
end MajLaw
namespace Ints
open Go.ChangeShapes Go.WideShapes Go.ChangeAt Go.RowKit Mem
def intsV (zs:List Int):List Value:=zs.map (Value.int .i64)
theorem intsV_at (zs:List Int) (k:Nat) (hk:k<zs.length):(intsV zs)[k]?=some (.int .i64 zs[k]):=by simp [intsV,hk]
theorem intsV_one (zs:List Int):∀u∈intsV zs,u.oneCell'=true:=fun u hu=>by
 obtain⟨z,_,rfl⟩:=List.mem_map.1 hu
 rfl
theorem elemInts:Elem Tryz.prog 70 3 (.int .i64 0) 1 8:=⟨Tryz.underlying70,by kernel_rfl,rfl,by omega⟩
theorem rd_of_blk {w:World} {g:Nat} {t:TypeId} {cs:Array Value} (h:Blk w g t cs):Rd w (g+1) 1 (some ⟨g,0,none⟩) cs.size cs.toList:=
 ⟨by simp,fun _=>⟨g,0,rfl,by omega,fun j u hu=>by rw [Nat.zero_add,h.cell];simpa using hu⟩⟩
end Ints
namespace Av
def upd (S:Nat→Nat→Int) (i j:Nat) (v:Int):Nat→Nat→Int:=fun a b=>if a=i∧b=j then v else S a b
def tells (s r q:Nat):Prop:=r≠s∧q≠s∧q≠r
instance (s r q:Nat):Decidable (tells s r q):=inferInstanceAs (Decidable (_∧_∧_))
def toldF (s q:Nat) (S:Nat→Nat→Int) (r:Nat):List Int:=((List.range r).filter fun p=>decide (p≠s∧p≠q)).map fun p=>S p q
theorem toldF_succ (s q:Nat) (S:Nat→Nat→Int) (r:Nat):toldF s q S (r+1)=toldF s q S r++if r≠s∧r≠q then [S r q]else []:=by
 unfold toldF
 rw [List.range_succ,List.filter_append,List.map_append]
 congr 1
 by_cases h:r≠s∧r≠q
 · rw [if_pos h];simp [h]
 · rw [if_neg h];simp [h]
theorem toldF_length:∀s q,s<4→q<4→q≠s→∀S,(toldF s q S 4).length=2:=by
 intro s q hs hq hne S
 unfold toldF
 rw [List.length_map]
 rcases(show s=0∨s=1∨s=2∨s=3 by omega)with rfl|rfl|rfl|rfl<;>rcases(show q=0∨q=1∨q=2∨q=3 by omega)with rfl|rfl|rfl|rfl<;>first|rfl|exact absurd rfl hne
end Av
end Go.Proofs.YtljpoibnkkcjdaaGreatDoor
