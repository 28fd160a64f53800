import Derived.Shelf.RegionOpenPlain
import Derived.Test.YtljpoibnkkcjdaaGreatDoorPc28
set_option linter.unusedVariables false
set_option linter.unusedSimpArgs false
namespace Go.Proofs.YtljpoibnkkcjdaaGreatDoor
namespace Dr
open Go.RowKit Mem Sm Tx ReadLaw Mj
def strsV (ws:List (List Nat)):List Value:=ws.map fun l=>.string (strB l)
theorem strsV_at (ws:List (List Nat)) (j:Nat) (hj:j<ws.length):(strsV ws)[j]?=some (.string (strB (ws.getD j []))):=by
 unfold strsV;rw [List.getElem?_map,List.getD_eq_getElem?_getD,List.getElem?_eq_getElem hj];rfl
theorem strsV_len (ws:List (List Nat)):(strsV ws).length=ws.length:=by unfold strsV;rw [List.length_map]
def Byt (l:List Nat):Prop:=(∀x∈l,x<256)∧l.length≤9223372036854775807
def okW (l:List Nat):Bool:=decide ((readOf l).2=0)
def numW (ws:List (List Nat)):List Int:=ws.map fun l=>(readOf l).1
def okN (ws:List (List Nat)) (many:Nat):Bool:=decide (ws.length=many+1)&&(ws.drop 1).all okW
theorem numW_snoc (a:List (List Nat)) (l:List Nat):intsV (numW (a++[l]))=intsV (numW a)++[.int .i64 (readOf l).1]:=by
 unfold numW intsV;rw [List.map_append,List.map_append];rfl
def NumAs (w w':World) (ws:List (List Nat)) (many:Nat) (e:Ending):Prop:=
 (okN ws many=true→∃A' c',e=.returned (.tuple #[.slice A' many c',.bool true])∧w'.ownsRow w.heap.size 3 1 (.slice A' many c') many (intsV (numW (ws.drop 1))))∧(okN ws many=false→e=.returned (.tuple #[.slice none 0 0,.bool false]))∧Below w.heap.size w w'
theorem NumAs.bad {w w':World} {ws:List (List Nat)} {many:Nat} (h:okN ws many=false) (hb:Below w.heap.size w w'):NumAs w w' ws many (.returned (.tuple #[.slice none 0 0,.bool false])):=
 ⟨fun h2=>absurd (h.symm.trans h2) (by simp),fun _=>rfl,hb⟩
set_option maxRecDepth 100000 in
set_option maxHeartbeats 4000000 in
theorem numbers_any (ws:List (List Nat)) (hws:∀l∈ws,Byt l) (h2:2≤ws.length) (hlen:ws.length≤20001) (many:Nat) (hm:many≤20001) (gd b o c:Nat) (hc:ws.length≤c) (w:World)
  (hgd: w.cell? ⟨gd,313,none⟩=some (.slice (some ⟨b,o,none⟩) ws.length c)) (hrd:Rd w w.heap.size 1 (some ⟨b,o,none⟩) ws.length (strsV ws)):
  Calls Tryz.prog 66 #[.pointer (some ⟨gd,0,none⟩),.int .i64 (many:Int)] w fun e w'=>NumAs w w' ws many e:=by
 have HWS:=Lib.hid hws
 have HRD:=Lib.hid (show ∀j,j<ws.length→ w.cell? ⟨b,o+j,none⟩=some (.string (strB (ws.getD j [])))from fun j hj=>by
  obtain⟨b',o',e,_,h⟩:=hrd.2 (by omega)
  injection e with e
  injection e with e1 e2
  subst e1 e2
  exact h j _ (strsV_at ws j hj))
 have HBL:=Lib.hid (show b<w.heap.size from by
  obtain⟨b',o',e,h,_⟩:=hrd.2 (by omega)
  injection e with e
  injection e with e1 e2
  subst e1
  exact h)
 clear hws hrd
 obtain⟨n,hn⟩:∃n,ws.length=n:=⟨_,rfl⟩
 rw [hn]at h2 hlen hc hgd HRD
 go_enter Tryz.func66,Tryz.ntmps66
 have hwm:IntKind.i64.wrap ((many:Int)+1)=((many+1:Nat):Int):=by rw [IntKind.wrap_i64];omega
 by_cases hq:n=many+1
 ·
  have hqb:((n:Int)!=((many+1:Nat):Int))=false:=by rw [hq];simp
  have HN:=Lib.hid hn
  have HQ:=Lib.hid hq
  have hc1:¬c=1:=by omega
  clear hq hn
  go_wp2_with fail
  obtain⟨m,hm1⟩:∃m,n-1=m:=⟨_,rfl⟩
  rw [hm1]
  have HM:=Lib.hid (show n=m+1 by omega)
  clear hm1 hqb hwm hc1
  generalize((n:Int)!=(many:Int)+1)=q18
  generalize((many:Int)+1)=q17
  go_loopw [25,6] (fun i v wr=>∃(k:Nat) (A:Option Addr) (d:Nat),k≤m∧i=.int .i64 (k:Int)∧v=.slice A k d∧wr.ownsRow w.heap.size 3 1 (.slice A k d) k (intsV (numW ((ws.drop 1).take k)))∧((ws.drop 1).take k).all okW=true∧Below w.heap.size w wr) (fun i _ _=>m-(intOf i).toNat)
  case atStart=>exact⟨0,none,0,Nat.zero_le _,rfl,rfl,World.ownsRow_nil _ _ _ _,rfl,Below.refl _ _⟩
  case round=>
   obtain⟨k,A,d,hk,rfl,rfl,hoo,hall,hb⟩:=hrel
   have HOO:=Lib.hid hoo
   have HAL:=Lib.hid hall
   have HB:=Lib.hid hb
   clear hoo hall hb
   by_cases hlt:k<m
   ·
    obtain⟨l,hl⟩:∃l,ws.getD (1+k) []=l:=⟨_,rfl⟩
    have HL:=Lib.hid hl
    have HWL:=Lib.hid (HWS.out l (by rw [←hl,List.getD_eq_getElem?_getD,List.getElem?_eq_getElem (by rw [HN.out,HM.out];omega)];exact List.getElem_mem _))
    have hcell: wr.cell? ⟨b,o+1+k,none⟩=some (.string (strB l)):=by
     rw [Nat.add_assoc,←hl];exact(HB.out.cell (p:=⟨b,o+(1+k),none⟩) HBL.out).trans (HRD.out (1+k) (by rw [HM.out];omega))
    have hi0:(0:Int)≤(k:Int):=by omega
    have hi1:(k:Int)<(m:Int):=by omega
    have hwk:IntKind.i64.wrap ((k:Int)+1)=((k+1:Nat):Int):=by rw [IntKind.wrap_i64];have:=HM.out;omega
    clear hl
    go_wp2_with fail
    refine(fixRead_any l _ HWL.out.1 HWL.out.2).mono ?_
    rintro e w2 ⟨rfl,hb⟩
    obtain⟨z,hz⟩:∃z,(readOf l).1=z:=⟨_,rfl⟩
    obtain⟨y,hy⟩:∃y,(readOf l).2=y:=⟨_,rfl⟩
    rw [hz,hy]
    have HZ:=Lib.hid hz
    have HY:=Lib.hid hy
    have HOO:=Lib.hid (ownsRow_below HOO.out hb)
    have HB:=Lib.hid (onward HB.out (Nat.le_refl _) hb)
    have htk:=Lib.hid (show(ws.drop 1).take (k+1)=(ws.drop 1).take k++[l]by
     rw [List.take_add_one,List.getElem?_drop,←HL.out,List.getD_eq_getElem?_getD,List.getElem?_eq_getElem (show 1+k<ws.length by rw [HN.out,HM.out];omega)];rfl)
    clear hz hy hb hcell
    by_cases hy0:y=0
    ·
     have hyb:(y !=0)=false:=by rw [hy0];rfl
     have HAL:=Lib.hid (show((ws.drop 1).take (k+1)).all okW=true by rw [htk.out,List.all_append,HAL.out];simp [okW,HY.out,hy0])
     clear hy0
     go_upto_region 10 with fail
     have hbA:Below w2.heap.size w2 (w2.alloc (.cells #[.int .i64 z] 3)):=(Below.refl _ _).alloc (Nat.le_refl _) _
     have HOO0:=Lib.hid (ownsRow_below HOO.out hbA)
     have HB:=Lib.hid (onward HB.out (Nat.le_refl _) hbA)
     go_upto_region 11 with(at_builtin;refine wpList_append_rd _ rfl (.tmp 36) (.tmp 38) 70 rfl (base:=w.heap.size) elemInts rfl HOO0.out rfl (fun h=>by cases h) (rd_one _ _ _) (by simp [Value.oneCell']) (by unfold maxLen;have:=HM.out;omega) (by have:=HM.out;omega) HB.out.size ?_;intro A5 d5 w5 hA5 hown hg;have HOO:=Lib.hid hown;have HB:=Lib.hid (HB.out.grown hg HB.out.size (fun g e=>(HOO0.out.lt g e).1));clear hown hg hA5)
     have HOO:=Lib.hid (show w5.ownsRow w.heap.size 3 1 (.slice A5 (k+1) d5) (k+1) (intsV (numW ((ws.drop 1).take (k+1))))from by rw [htk.out,numW_snoc,HZ.out];exact HOO.out)
     go_wp2_with fail
     exact⟨⟨k+1,A5,d5,by omega,by go_num,rfl,HOO.out,HAL.out,HB.out⟩,by simp [intOf];omega⟩
    ·
     have hyb:(y !=0)=true:=bne_iff_ne.2 hy0
     have HBAD:=Lib.hid (show okN ws many=false by
      unfold okN
      rw [Bool.and_eq_false_iff]
      refine .inr ?_
      rw [List.all_eq_false]
      refine⟨l,?_,by simp [okW,HY.out,hy0]⟩
      rw [←HL.out,List.getD_eq_getElem?_getD,←List.getElem?_drop,List.getElem?_eq_getElem (by rw [List.length_drop,HN.out,HM.out];omega)]
      exact List.getElem_mem _)
     go_wp2_with fail
     go_ret2
     exact NumAs.bad HBAD.out HB.out
   ·
    obtain rfl:k=m:=by omega
    have hi1:decide ((k:Int)<(k:Int))=false:=decide_eq_false (by omega)
    have HT:=Lib.hid (show(ws.drop 1).take k=ws.drop 1 from List.take_of_length_le (by rw [List.length_drop,HN.out,HM.out];omega))
    have HOK:=Lib.hid (show okN ws many=true by unfold okN;rw [decide_eq_true (by rw [HN.out];exact HQ.out),←HT.out,HAL.out];rfl)
    have HKM:=Lib.hid (show k=many by have:=HM.out;have:=HQ.out;omega)
    go_wp2_with fail
    go_ret2
    refine⟨fun _=>⟨A,d,by rw [←HKM.out];rfl,?_⟩,fun h=>absurd (HOK.out.symm.trans h) (by simp),HB.out⟩
    have h:=HOO.out
    rw [HT.out]at h
    rw [←HKM.out]
    exact h
 ·
  have hqb:((n:Int)!=((many+1:Nat):Int))=true:=bne_iff_ne.2 (by omega)
  have HBAD:=Lib.hid (show okN ws many=false by unfold okN;rw [hn,decide_eq_false hq];rfl)
  go_wp2_with fail
  go_ret2
  exact NumAs.bad HBAD.out (Below.refl _ _)
end Dr
namespace Dr
open Go.RowKit Mem Rws Sm Tx
theorem run_append_str {P:Program} (w:World) (base:Nat) (t u ty e:TypeId) (i:TypeInfo) (ht:P.underlying t=some (.slice e)) (hu:P.underlying u=some .string) (hi: P.info? e=some i) (hz:i.zero=some (.int .u8 0)) (hsize:i.size=1) (hby:i.bytes=1)
  (v:Value) (n:Nat) (xs:List Value) (hown:w.ownsRow base e 1 v n xs) (s:ByteArray) (h63:n+s.size≤maxLen) (hbytes:n+s.size≤140737488355328) (hbase:base≤w.heap.size):
  ∃v' w',(Builtin.append_ #[t,u] ty #[v,.string s]).run P w=.ok v' w'∧w'.ownsRow base e 1 v' (n+s.size) (xs++Lib.strCells s)∧w.grownBy w' v.ownBlock∧(v'.ownBlock=v.ownBlock∨v'.ownBlock=some w.heap.size):=by
 obtain⟨v',w',hr,h1,h2,h3⟩:=Lib.run_append_own_string (P:=P) w base t u ty e i ht hu hi hz hsize hby v n xs hown s h63 hbytes hbase
 refine⟨v',w',hr,h1,h2,?_⟩
 have hxl:xs.length=n:=by simpa using hown.1
 rcases hown.2 with⟨rfl,rfl⟩|⟨g,cap,cur,rfl,hbg,hg,hnc,hcm,hcs,htake⟩
 ·
  by_cases hm:s.size=0
  · exact .inl (by rw [h3.2 ⟨rfl,hm⟩])
  ·
   have h:=run_append_nil_string (P:=P) w t u ty e i (.int .u8 0) ht hu hi hz s (by omega) (by unfold maxLen at h63;omega) (by rw [hby];omega)
   rw [h]at hr
   injection hr with e1 _
   exact .inr (by rw [←e1];rfl)
 ·
  have hcs':cur.size=cap:=by simpa using hcs
  by_cases hroom:n+s.size≤cap
  ·
   have h:=Lib.run_append_room_string (P:=P) w t u ty e i ht hu hi hsize g n cap cur hg s hroom (by omega)
   rw [h]at hr
   injection hr with e1 _
   exact .inl (by rw [←e1];rfl)
  ·
   have h:=Lib.run_append_grow_string (P:=P) w t u ty e i (.int .u8 0) ht hu hi hz ⟨g,0,none⟩ n cap xs (by rw [hsize];simpa using hxl) (hown.cells (g:=g) rfl) s (by omega) (by unfold maxLen at h63;omega) (by rw [hby];exact growslice_fits (by omega) (by omega))
   rw [h]at hr
   injection hr with e1 _
   exact .inr (by rw [←e1];rfl)
theorem wpList_append_str {P:Program} (w:World) {ops:Array Oper} {rest:List Oper} {o:Oper} {a:Act} {Q:Exit→Act→World→Prop} (hgd:o.guard=none) (sl x:Operand) (t u:TypeId)
  (ho:o.op=.call { callee:=.builtin .append,args:=#[sl,x],argTypes:=#[t,u] }) (base:Nat) {e:TypeId} (i:TypeInfo) (ht:P.underlying t=some (.slice e)) (hu:P.underlying u=some .string) (hi: P.info? e=some i) (hz:i.zero=some (.int .u8 0)) (hsize:i.size=1) (hby:i.bytes=1)
  {v:Value} {n:Nat} {xs:List Value} (hs:a.eval sl=v) (hown:w.ownsRow base e 1 v n xs) {s:ByteArray} (hx:a.eval x=.string s) (h63:n+s.size≤maxLen) (hbytes:n+s.size≤140737488355328) (hbase:base≤w.heap.size)
  (h:∀v' w',w'.ownsRow base e 1 v' (n+s.size) (xs++Lib.strCells s)→w.grownBy w' v.ownBlock→(v'.ownBlock=v.ownBlock∨v'.ownBlock=some w.heap.size)→wpList P ops Q rest (a.put o.dst v') w'):wpList P ops Q (o::rest) a w:=by
 refine wpList_plain hgd fun K hK=>?_
 obtain⟨v',w',hr,h2,h3,h4⟩:=run_append_str (P:=P) w base t u o.type e i ht hu hi hz hsize hby v n xs hown s h63 hbytes hbase
 unfold Oper.wp execOp
 simp only [ho,resolve,invoke,builtin,Sem.run_bind,Sem.run_pure,Result.andThen_ok,List.map_toArray,List.map_cons,List.map_nil,hs,hx,hr]
 exact hK _ _ (h v' w' h2 h3 h4)
theorem strCells_strB {l:List Nat} (hl:∀x∈l,x<256):Lib.strCells (strB l)=bytesV l:=by
 unfold Lib.strCells
 rw [strB_data,List.map_map]
 unfold bytesV
 refine List.map_congr_left fun x hx=>?_
 have:=hl x hx
 show Value.int .u8 (((UInt8.ofNat x).toNat:Nat):Int)=_
 rw [UInt8.toNat_ofNat',Nat.mod_eq_of_lt (by omega)]
structure Kp (X:Nat→Prop) (w w':World):Prop where
 os:w'.os=w.os
 tape:w'.tape=w.tape
 output:w'.output=w.output
 size:w.heap.size≤w'.heap.size
 block:∀k,k<w.heap.size→¬X k→w'.heap[k]?=w.heap[k]?
theorem Kp.refl (X:Nat→Prop) (w:World):Kp X w w:=⟨rfl,rfl,rfl,Nat.le_refl _,fun _ _ _=>rfl⟩
theorem Kp.trans {X:Nat→Prop} {a b c:World} (h:Kp X a b) (k:Kp X b c):Kp X a c:=
 ⟨k.os.trans h.os,k.tape.trans h.tape,k.output.trans h.output,Nat.le_trans h.size k.size,fun i hi hx=>(k.block i (Nat.lt_of_lt_of_le hi h.size) hx).trans (h.block i hi hx)⟩
theorem Kp.of_below {X:Nat→Prop} {w w':World} (h:Below w.heap.size w w'):Kp X w w':=⟨h.os,h.tape,h.output,h.size,fun k hk _=>h.block k hk⟩
theorem Kp.of_grown {X:Nat→Prop} {w w':World} {row:Option Nat} (h:w.grownBy w' row) (hX:∀g,row=some g→X g):Kp X w w':=
 ⟨h.os,h.tape,h.output,h.size,fun k hk hx=>h.block k hk fun e=>hx (hX k e.symm)⟩
theorem Kp.set {X:Nat→Prop} {w w':World} (h:Kp X w w') {p:Addr} (hp:X p.block) (v:Value):Kp X w (w'.setCell p v):=by
 refine⟨h.os,h.tape,h.output,by simpa using h.size,fun k hk hx=>(Below.heap_setCell w' p v k (fun e=>hx (e▸hp))).trans (h.block k hk hx)⟩
end Dr
namespace Dr
open Go.RowKit Mem Rws Sm Tx
theorem blk_shape {w:World} {g:Nat} {t:TypeId} {n:Nat} {f:Nat→Value} (h:Blk w g t (row n f)): w.shape? g=some (t,n):=by
 unfold Blk at h
 simp [World.shape?,h,row_size]
set_option maxRecDepth 100000 in
set_option maxHeartbeats 4000000 in
theorem copyCheck_any (g q N:Nat) (T:TypeId) (f:Nat→Value) (hq:q<N) (w:World) (hb:Blk w g T (row N f)) (hp:f q=.pointer none∨f q=.pointer (some ⟨g,q,none⟩))
  (hl:liesAt Tryz.prog Tryz.prog.depth T (N/Tryz.prog.cellsOf T) q 83 1=true):
  Calls Tryz.prog 49 #[.pointer (some ⟨g,q,none⟩)] w fun e w'=>e=.returned (.tuple #[])∧Blk w' g T (row N fun i=>if i=q then .pointer (some ⟨g,q,none⟩)else f i)∧Kp (fun b=>b=g) w w'∧w'.heap.size=w.heap.size:=by
 obtain⟨j,hj,hjs⟩:∃j,Tryz.prog.info? 83=some j∧j.size=2:=Option.map_eq_some_iff.1 (by kernel_rfl)
 have hsh:=blk_shape hb
 have hc: w.cell? ⟨g,q,none⟩=some (f q):=by rw [hb.cell,row_at hq]
 have hf: w.frozen? ⟨g,q,none⟩=false:=hb.thaw q
 have HB:=Lib.hid hb
 rcases hp with hp|hp
 ·
  rw [hp]at hc
  have HP:=Lib.hid hp
  clear hb hp
  go_enter Tryz.func49,Tryz.ntmps49
  go_wp2_with fail
  rw [Lib.run_to_unsafe w ⟨g,q,none⟩ Tryz.underlying81 Tryz.underlying142 hj (by rw [hjs];decide) hsh hq]
  simp only [Result.andThen]
  rw [Oper.upon_value]
  go_wp2_with fail
  rw [run_callFunc_extern Tryz.func69 (by kernel_rfl) (by kernel_rfl) (by kernel_rfl) (e:=Extern.AbiNoEscape.same) (by kernel_rfl)]
  rw [Lib.run_noEscape]
  simp only [Result.andThen]
  rw [Oper.upon_value]
  go_wp2_with fail
  rw [Lib.run_from_unsafe w ⟨g,q,none⟩ Tryz.underlying142 Tryz.underlying81 hj hsh hl]
  simp only [Result.andThen]
  rw [Oper.upon_value]
  go_wp2_with fail
  go_end0
  refine⟨rfl,?_,(Kp.refl (fun b=>b=g) w).set (p:=⟨g,q,none⟩) rfl _,by simp⟩
  have h:=HB.out.set q (.pointer (some ⟨g,q,none⟩))
  rwa [row_set]at h
 ·
  rw [hp]at hc
  have hrow:=Lib.hid (show(row N fun i=>if i=q then Value.pointer (some ⟨g,q,none⟩)else f i)=row N f from row_congr fun i _=>by by_cases e:i=q<;>simp [e,hp])
  clear hb hp
  go_enter Tryz.func49,Tryz.ntmps49
  go_wp2_with fail
  rw [Lib.run_neq_ptr_same w _ Tryz.underlying81 hj]
  go_wp2_with fail
  go_end0
  exact⟨rfl,by rw [hrow.out];exact HB.out,Kp.refl _ _,rfl⟩
theorem own_ne_b {w:World} {base:Nat} {e t:TypeId} {size n g:Nat} {v:Value} {xs:List Value} {cs:Array Value} (h:w.ownsRow base e size v n xs) (hb:Blk w g t cs) (he:e≠t):v.ownBlock≠some g:=fun e2=>by
 obtain⟨cur,t',g1,g2⟩:=Ms.own_is h he g e2
 unfold Blk at hb
 rw [hb]at g1
 injection g1 with g1
 injection g1 with _ g1
 exact g2 g1.symm
theorem own_form {w:World} {base:Nat} {e:TypeId} {size n:Nat} {v:Value} {xs:List Value} (h:w.ownsRow base e size v n xs):∃A c,v=.slice A n c:=by
 rcases h.2 with⟨rfl,rfl⟩|⟨g,cap,cur,rfl,_⟩
 · exact⟨none,0,rfl⟩
 · exact⟨_,_,rfl⟩
theorem gr_set (w:World) (p:Addr) (v:Value):w.grownBy (w.setCell p v) (some p.block):=⟨rfl,rfl,rfl,by simp,fun k _ hne=>Below.heap_setCell w p v k (fun e=>hne (by rw [e]))⟩
theorem infoByte:∃i,Tryz.prog.info? 5=some i∧i.zero=some (.int .u8 0)∧i.size=1∧i.bytes=1:=by
 obtain⟨i,hi,h⟩:=info_parts (show(Tryz.prog.info? 5).map (fun i=>(i.zero,i.size,i.bytes))=some (some (.int .u8 0),1,1)by kernel_rfl)
 exact⟨i,hi,h.1,h.2.1,h.2.2⟩
def putB (f:Nat→Value) (g q:Nat) (v:Value) (i:Nat):Value:=if i=q then .pointer (some ⟨g,q,none⟩)else if i=q+1 then v else f i
set_option maxRecDepth 100000 in
set_option maxHeartbeats 4000000 in
theorem writeStr_any (g q N:Nat) (T:TypeId) (f:Nat→Value) (hq:q+1<N) (hT:T≠5) (B:Nat) (out s:List Nat) (hs:∀x∈s,x<256) (w:World) (hb:Blk w g T (row N f)) (hp:f q=.pointer none∨f q=.pointer (some ⟨g,q,none⟩))
  (hown:w.ownsRow B 5 1 (f (q+1)) out.length (bytesV out)) (hne:(f (q+1)).ownBlock≠some g) (hlen:out.length+s.length≤140737488355328) (hB:B≤w.heap.size)
  (hl:liesAt Tryz.prog Tryz.prog.depth T (N/Tryz.prog.cellsOf T) q 83 1=true):
  Calls Tryz.prog 23 #[.pointer (some ⟨g,q,none⟩),.string (strB s)] w fun e w'=>∃v',e=.returned (.tuple #[.int .i64 (s.length:Int),.nilIface])∧Blk w' g T (row N (putB f g q v'))∧w'.ownsRow B 5 1 v' (out++s).length (bytesV (out++s))∧
   (v'.ownBlock=(f (q+1)).ownBlock∨∃b,v'.ownBlock=some b∧w.heap.size≤b)∧Kp (fun b=>b=g∨(f (q+1)).ownBlock=some b) w w':=by
 obtain⟨i0,hi,hz0,hz1,hz2⟩:=infoByte
 have HOW:=Lib.hid hown
 have HB:=Lib.hid hb
 have HP:=Lib.hid hp
 have HS:=Lib.hid (strCells_strB hs)
 have HSZ:=Lib.hid (strB_size s)
 have hgl:=hb.lt
 clear hb hp hs hown
 go_enter Tryz.func23,Tryz.ntmps23
 go_wp2_with fail
 refine(copyCheck_any g q N T f (by omega) w HB.out HP.out hl).mono ?_
 rintro e w1 ⟨rfl,hb1,hk1,hsz⟩
 have HB1:=Lib.hid hb1
 have HK1:=Lib.hid hk1
 have HOW1:=Lib.hid (show w1.ownsRow B 5 1 (f (q+1)) out.length (bytesV out)from HOW.out.kept (row:=some g) ⟨hk1.os,hk1.tape,hk1.output,hk1.size,fun k hk hne=>hk1.block k hk (fun e=>hne (by rw [e]))⟩ (.inr hne))
 have HSW:=Lib.hid hsz
 clear hk1 hsz
 obtain⟨v,hv⟩:∃v,f (q+1)=v:=⟨_,rfl⟩
 have c1: w1.cell? ⟨g,q+1,none⟩=some v:=by
  rw [hb1.cell,row_at hq,if_neg (by omega),hv]
 have HV:=Lib.hid hv
 rw [hv]at HOW1 hne
 clear hb1 hv
 go_upto_region 3 with(at_builtin;refine wpList_append_str _ rfl (.tmp 12) (.tmp 13) 58 9 rfl B i0 Tryz.underlying58 Tryz.underlying9 hi hz0 hz1 hz2 rfl HOW1.out rfl (by rw [HSZ.out];unfold maxLen;omega) (by rw [HSZ.out];omega) (by rw [HSW.out];exact hB) ?_;intro v2 w2 hown hg hat;obtain⟨A2,d2,hv2⟩:=own_form hown;subst hv2;have HO2:=Lib.hid hown;have HG2:=Lib.hid hg;have HA2:=Lib.hid hat;have HB2:=Lib.hid (HB1.out.grown hg (fun e=>hne e.symm));have c1:=(show w2.cell? ⟨g,q+1,none⟩=some v by rw [HB2.out.cell,row_at hq,if_neg (by omega),HV.out]);have f1:=HB2.out.thaw (q+1);clear hown hg hat)
 have HB3:=Lib.hid (HB2.out.set (q+1) (.slice A2 (out.length+(strB s).size) d2))
 rw [row_set]at HB3
 have HO3:=Lib.hid (show(w2.setCell ⟨g,q+1,none⟩ (.slice A2 (out.length+(strB s).size) d2)).ownsRow B 5 1 (.slice A2 (out.length+(strB s).size) d2) (out++s).length (bytesV (out++s))from by
  have h:=HO2.out
  rw [HS.out,←bytesV_append]at h
  rw [show(out++s).length=out.length+(strB s).size by rw [HSZ.out,List.length_append]]
  exact h.kept (gr_set w2 ⟨g,q+1,none⟩ (.slice A2 (out.length+(strB s).size) d2)) (.inr (own_ne_b h HB2.out (fun e=>hT e.symm))))
 go_wp2_with fail
 go_ret2
 refine⟨(.slice A2 (out.length+(strB s).size) d2),by rw [HSZ.out];rfl,?_,HO3.out,?_,?_⟩
 ·
  rw [show(row N (putB f g q (.slice A2 (out.length+(strB s).size) d2)))=row N fun i=>if i=q+1 then(.slice A2 (out.length+(strB s).size) d2)else if i=q then .pointer (some ⟨g,q,none⟩)else f i from row_congr fun i _=>by
   unfold putB
   by_cases e:i=q
   · rw [if_pos e,if_neg (by omega),if_pos e]
   · rw [if_neg e,if_neg e]]
  exact HB3.out
 ·
  rw [HV.out]
  exact HA2.out.imp id fun e=>⟨_,e,Nat.le_of_eq HSW.out.symm⟩
 ·
  rw [HV.out]
  have k1:Kp (fun b=>b=g∨v.ownBlock=some b) w w1:=⟨HK1.out.os,HK1.out.tape,HK1.out.output,HK1.out.size,fun k hk hx=>HK1.out.block k hk (fun e=>hx (.inl e))⟩
  exact(k1.trans (Kp.of_grown HG2.out (fun b e=>.inr e))).set (p:=⟨g,q+1,none⟩) (.inl rfl) (.slice A2 (out.length+(strB s).size) d2)
end Dr
namespace Dr
open Go.RowKit Mem Rws Sm Tx
theorem byteCells_strB {l:List Nat} (hl:∀x∈l,x<256):Lib.byteCells (l.map fun x=>UInt8.ofNat x)=bytesV l:=by
 rw [←strCells_strB hl,Lib.strCells_eq,strB_data]
set_option maxRecDepth 100000 in
set_option maxHeartbeats 4000000 in
theorem string_any (g q N:Nat) (T:TypeId) (f:Nat→Value) (hq:q+1<N) (B:Nat) (out:List Nat) (hs:∀x∈out,x<256) (w:World) (hb:Blk w g T (row N f)) (hown:w.ownsRow B 5 1 (f (q+1)) out.length (bytesV out)) (hnil:out=[]→f (q+1)=.slice none 0 0):
  Calls Tryz.prog 25 #[.pointer (some ⟨g,q,none⟩)] w fun e w'=>e=.returned (.string (strB out))∧Below B w w':=by
 have c1: w.drew.cell? ⟨g,q+1,none⟩=some (f (q+1)):=by rw [hb.drew.cell,row_at hq]
 have mixed:Tryz.prog.follows .mixedOrders=true:=by kernel_rfl
 by_cases h0:out=[]
 ·
  rw [hnil h0]at c1
  have HS:=Lib.hid (show(.empty:ByteArray)=strB out by rw [h0];rfl)
  have hSD:(Builtin.unsafeSliceData_ #[58] 115 #[.slice none 0 0]).run Tryz.prog w.drew=.ok (.pointer none) w.drew:=rfl
  have hUS:=Lib.run_unsafeString_none (P:=Tryz.prog) w.drew 115 3 9 none
  clear hb hown hnil
  go_enter Tryz.func25,Tryz.ntmps25
  go_wp2_with fail
  go_region_o
  all_goals (go_wp2_with fail;go_ret;exact⟨by rw [←HS.out];rfl,(Below.refl B w).drew⟩)
 ·
  obtain⟨g2,cap,cur,hv,hbg,hg,hnc,hcm,hcs,htake⟩:∃g cap cur,f (q+1)=.slice (some ⟨g,0,none⟩) out.length cap∧B≤g∧w.heap[g]?=some (.cells cur 5 (0,0))∧out.length≤cap∧cap≤maxLen∧cur.size=cap*1∧cur.toList.take (out.length*1)=bytesV out:=by
   rcases hown.2 with⟨_,hz⟩|⟨g,cap,cur,hv,r⟩
   · exact absurd (List.eq_nil_of_length_eq_zero hz) h0
   · exact⟨g,cap,cur,hv,r⟩
  rw [hv]at c1 hown
  have hl0:out.length≠0:=fun e=>h0 (List.eq_nil_of_length_eq_zero e)
  have hSD:(Builtin.unsafeSliceData_ #[58] 115 #[.slice (some ⟨g2,0,none⟩) out.length cap]).run Tryz.prog w.drew=.ok (.pointer (some ⟨g2,0,none⟩)) w.drew:=
   Lib.run_unsafeSliceData_row _ _ _ _ _ _ (by omega)
  have hUS:(Builtin.unsafeString_ #[115,3] 9 #[.pointer (some ⟨g2,0,none⟩),.int .i64 out.length]).run Tryz.prog w.drew=.ok (.string (strB out)) (w.drew.freeze ⟨g2,0,none⟩ out.length):=by
   have h:=Lib.run_unsafeString_row w.drew 115 3 9 5 Tryz.underlying115 (by kernel_rfl) g2 cur.size (by have hg':w.drew.heap[g2]?=some (.cells cur 5 (0,0)):=hg;simp [World.shape?,hg']) (out.map fun x=>UInt8.ofNat x) (by simpa using h0) (by rw [List.length_map];omega) (by rw [List.length_map];unfold maxLen at hcm;omega) (fun j x hx=>by
    have hc:=hown.cells (g:=g2) rfl j (.int .u8 x.toNat) (by rw [←byteCells_strB hs];unfold Lib.byteCells;rw [List.getElem?_map,hx];rfl)
    exact hc)
   rw [List.length_map]at h
   rw [h]
   rw [strB_eq (s:=⟨(out.map fun x=>UInt8.ofNat x).toArray⟩) (l:=out) (by simp)]
  clear hb hown hnil
  go_enter Tryz.func25,Tryz.ntmps25
  go_wp2_with fail
  go_region_o
  all_goals (go_wp2_with fail;go_ret;exact⟨rfl,Lib.below_freeze (Below.drew (Below.refl B w)) (p:=⟨g2,0,none⟩) hbg _⟩)
end Dr
namespace Dr
open Go.RowKit Mem Rws Sm Tx
def hexC (d:Nat):Nat:=if d<10 then 48+d else 87+d
def hexOf (n:Nat):List Nat:=if n<16 then [hexC n]else hexOf (n/16)++[hexC (n%16)]
termination_by n
decreasing_by omega
theorem hex_lo {n:Nat} (h:n<16):hexOf n=[hexC n]:=by rw [hexOf,if_pos h]
theorem hex_hi {n:Nat} (h:¬n<16):hexOf n=hexOf (n/16)++[hexC (n%16)]:=by rw [hexOf,if_neg h]
theorem hexC_dig (d:Nat) (h:d<16):(48≤hexC d∧hexC d≤57)∨(97≤hexC d∧hexC d≤102):=by unfold hexC;split<;>omega
theorem hex_dig (n:Nat):∀c∈hexOf n,(48≤c∧c≤57)∨(97≤c∧c≤102):=by
 induction n using Nat.strongRecOn with
 |_ n ih=>
  by_cases h:n<16
  · rw [hex_lo h];intro c hc;rw [List.mem_singleton]at hc;subst hc;exact hexC_dig n h
  ·
   rw [hex_hi h]
   intro c hc
   rcases List.mem_append.1 hc with h1|h1
   · exact ih _ (by omega) c h1
   · rw [List.mem_singleton]at h1;subst h1;exact hexC_dig _ (Nat.mod_lt _ (by omega))
theorem hex_len (k n:Nat) (h:n<16 ^ (k+1)):(hexOf n).length≤k+1:=by
 induction k generalizing n with
 |zero=>rw [hex_lo (by simpa using h)];simp
 |succ k ih=>
  by_cases h1:n<16
  · rw [hex_lo h1];simp
  ·
   rw [hex_hi h1]
   have:=ih (n/16) (by rw [Nat.pow_succ]at h;omega)
   simp;omega
def digs:List Nat:=[48,49,50,51,52,53,54,55,56,57,97,98,99,100,101,102,103,104,105,106,107,108,109,110,111,112,113,114,115,116,117,118,119,120,121,122]
theorem digs_at:∀d,d<16→digs.getD d 0=hexC d:=by decide
theorem digs_small:∀y∈digs,y<256:=by decide
theorem and15u (n:Nat) (h:n<18446744073709551616):bits .and .u64 (n:Int) 15=((n%16:Nat):Int):=by
 have h1:(BitVec.ofInt 64 15).toNat=2 ^ 4-1:=by decide
 have key:(BitVec.ofInt 64 (n:Int)&&& BitVec.ofInt 64 15).toNat=((n:Int)%((2 ^ 64:Nat):Int)).toNat%2 ^ 4:=by
  rw [BitVec.toNat_and,BitVec.toNat_ofInt,h1,Nat.and_two_pow_sub_one_eq_mod]
 show IntKind.u64.wrap ((BitVec.ofInt 64 (n:Int)&&& BitVec.ofInt 64 15).toNat:Nat)=_
 rw [key,IntKind.wrap_u64]
 omega
theorem digs_get (s:ByteArray) (hs:s=strB digs) (d:Nat) (hd:d<16) (h:d<s.size):(s[d]'h).toNat=hexC d:=by
 subst hs
 rw [strB_get digs d h digs_small,digs_at d hd]
theorem shr4 (v:Nat):(v:Int).fdiv (2 ^ min (Int.toNat 4) IntKind.u64.bits)=((v/16:Nat):Int):=by
 rw [show(2:Int) ^ min (Int.toNat 4) IntKind.u64.bits=16 by decide,Int.fdiv_eq_ediv_of_nonneg _ (by omega)]
 omega
def TzAt (w:World):Prop:= w.cell? ⟨7,15,none⟩=some (.int .u8 4)
set_option maxRecDepth 100000 in
set_option maxHeartbeats 4000000 in
theorem tz_any (w:World) (h:TzAt w):Calls Tryz.prog 118 #[.int .u64 16] w fun e w'=>e=.returned (.int .i64 4)∧w'=w:=by
 unfold TzAt at h
 go_enter Tryz.func118,Tryz.ntmps118
 have hq:IntKind.u64.wrap (bits BinOp.and IntKind.u64 16 (IntKind.u64.wrap (-16))*285870213051353865)/288230376151711744=15:=by decide+kernel
 go_wp2_with(go_in)
 go_ret
 exact⟨rfl,rfl⟩
def hxF (i:Nat) (ds:List Nat) (j:Nat):Value:=if j<i then .int .u8 0 else .int .u8 ((ds.getD (j-i) 0:Nat):Int)
theorem hxF_put (i:Nat) (ds:List Nat) (d:Nat):(row 65 fun j=>if j=i then .int .u8 (d:Int)else hxF (i+1) ds j)=row 65 (hxF i (d::ds)):=row_congr fun j hj=>by
 unfold hxF
 by_cases e:j=i
 · subst e;rw [if_pos rfl,if_neg (by omega),Nat.sub_self];rfl
 ·
  rw [if_neg e]
  by_cases h:j<i
  · rw [if_pos (by omega),if_pos h]
  · rw [if_neg (by omega),if_neg h,show j-i=(j-(i+1))+1 by omega];rfl
set_option maxRecDepth 100000 in
set_option maxHeartbeats 4000000 in
theorem pow_any (w:World):Calls Tryz.prog 117 #[.int .i64 16] w fun e w'=>e=.returned (.bool true)∧w'=w:=by
 have hq:(bits BinOp.and IntKind.i64 16 15==0)=true:=by decide+kernel
 go_enter Tryz.func117,Tryz.ntmps117
 go_wp2_with fail
 go_ret
 exact⟨rfl,rfl⟩
theorem slice65 (g i:Nat) (hi:i<65) (W:World):(Instr.sliceAt 190 (.pointer (some ⟨g,0,none⟩)) (some (.int .i64 (i:Int))) none none).run Tryz.prog W=.ok (.slice (some ⟨g,i,none⟩) (65-i) (65-i)) W:=by
 have e:Tryz.prog.arrayLen 190=65:=by kernel_rfl
 have e2:Tryz.prog.elem 190=5:=by kernel_rfl
 have hs:(sizeOf 5).run Tryz.prog W=.ok 1 W:=by kernel_rfl
 rw [run_sliceAt_array_l W 190 _ (by rw [e,e2,Tryz.underlying190]) .i64 (i:Int) (by omega) (by rw [e];omega),e,e2,hs]
 simp only [Result.andThen_ok,slicedAt,Int.toNat_natCast]
 rw [if_neg (by omega),Nat.mul_one]
 simp [Addr.add]
 exact fun h=>h.symm
theorem bytesV_get (ds:List Nat) (k:Nat) (u:Value) (h:(bytesV ds)[k]?=some u):u=.int .u8 ((ds.getD k 0:Nat):Int)∧k<ds.length:=by
 unfold bytesV at h
 rw [List.getElem?_map]at h
 have hk:k<ds.length:=by
  rcases Nat.lt_or_ge k ds.length with h1|h1
  · exact h1
  · rw [List.getElem?_eq_none h1]at h;cases h
 rw [List.getElem?_eq_getElem hk]at h
 injection h with h
 exact⟨by rw [←h,List.getD_eq_getElem?_getD,List.getElem?_eq_getElem hk];rfl,hk⟩
theorem conv_hex {W:World} {g i:Nat} {ds:List Nat} (h:Blk W g 190 (row 65 (hxF i ds))) (hi:i+ds.length=65) {n c:Nat} (hn:n=ds.length):
  (convert 58 9 (.slice (some ⟨g,i,none⟩) n c)).run Tryz.prog W=.ok (.string (strB ds)) W:=
 conv_rd (B:=g+1) (fun e=>by cases e) hn ⟨by subst hn;simp [bytesV],fun _=>⟨g,i,rfl,by omega,fun j u hu=>by
  obtain⟨rfl,hj⟩:=bytesV_get ds j u hu
  rw [h.cell,row_at (by omega)]
  unfold hxF
  rw [if_neg (by omega),Nat.add_sub_cancel_left]⟩⟩
set_option maxRecDepth 100000 in
set_option maxHeartbeats 4000000 in
theorem bits_any (u:Nat) (hu:u<4294967296) (w:World) (h:TzAt w) (h5:7<w.heap.size):
  Calls Tryz.prog 93 #[.slice none 0 0,.int .u64 (u:Int),.int .i64 16,.bool false,.bool false] w fun e w'=>e=.returned (.tuple #[.slice none 0 0,.string (strB (hexOf u))])∧Below w.heap.size w w':=by
 have HZ:=Lib.hid h
 have HU:=Lib.hid hu
 clear h
 go_enter Tryz.func93,Tryz.ntmps93
 have HA:=Lib.hid (show Blk (w.alloc (.cells Tryz.zeroCells190 190)) w.heap.size 190 (row 65 (hxF 65 []))from by
  have e:Tryz.zeroCells190=row 65 (hxF 65 []):=by kernel_rfl
  rw [←e];exact Blk.fresh _ _ _)
 have HB:=Lib.hid ((Below.refl w.heap.size w).alloc (Nat.le_refl _) (.cells Tryz.zeroCells190 190))
 have HZ1:=Lib.hid (show TzAt (w.alloc (.cells Tryz.zeroCells190 190))from(HB.out.cell (p:=⟨7,15,none⟩) h5).trans HZ.out)
 go_wp2_with fail
 generalize(w.alloc (.cells Tryz.zeroCells190 190))=w1 at*
 refine(pow_any w1).mono ?_
 rintro e w2 ⟨rfl,rfl⟩
 go_wp2_with fail
 refine(tz_any w2 HZ1.out).mono ?_
 rintro e w3 ⟨rfl,rfl⟩
 go_wp2_with fail
 go_loopw [1,13] (fun uu ii wr=>∃(v i:Nat) (ds:List Nat),uu=.int .u64 (v:Int)∧ii=.int .i64 (i:Int)∧i+ds.length=65∧hexOf v++ds=hexOf u∧v*16 ^ ds.length≤u∧(ds=[]∨1≤v)∧(∀x∈ds,x<256)∧Blk wr w.heap.size 190 (row 65 (hxF i ds))∧Below w.heap.size w wr) (fun uu _ _=>(intOf uu).toNat)
 case atStart=>exact⟨u,65,[],rfl,rfl,rfl,by simp,by simp,.inl rfl,by simp,HA.out,HB.out⟩
 case round=>
  clear HA HB
  obtain⟨v,i,ds,rfl,rfl,hi,hx,hle,hv0,hds,ha,hb⟩:=hrel
  have HA:=Lib.hid ha
  have HB:=Lib.hid hb
  have HI:=Lib.hid hi
  have HX:=Lib.hid hx
  have HD:=Lib.hid hds
  have HLE:=Lib.hid hle
  have HV0:=Lib.hid hv0
  clear ha hb hi hx hds hle hv0
  by_cases hv:16≤v
  ·
   have hv1:(16:Int)≤(v:Int):=by omega
   have hi8:ds.length<8:=by
    rcases Nat.lt_or_ge ds.length 8 with h|h
    · exact h
    ·
     have h1:16 ^ 8≤16 ^ ds.length:=Nat.pow_le_pow_right (by omega) h
     have h2:1*16 ^ ds.length≤v*16 ^ ds.length:=Nat.mul_le_mul_right _ (by omega)
     have h3:=HLE.out
     have h4:=HU.out
     omega
   obtain⟨i,rfl⟩:∃k,i=k+1:=⟨i-1,by have:=HI.out;omega⟩
   have hwi:IntKind.i64.wrap (((i+1:Nat):Int)-1)=(i:Int):=by rw [IntKind.wrap_i64];have:=HI.out;omega
   have hvl:v<18446744073709551616:=by
    have h2:v*1≤v*16 ^ ds.length:=Nat.mul_le_mul_left _ (Nat.pow_pos (by omega))
    have h3:=HLE.out
    have h4:=HU.out
    omega
   have hand:=and15u v hvl
   have hsh:=shr4 v
   have hi0:(0:Int)≤(i:Int):=by omega
   have hi65:(i:Int)<65:=by have:=HI.out;omega
   have f0:=HA.out.thaw i
   have c0:=HA.out.cell i
   rw [row_at (by have:=HI.out;omega)]at c0
   go_wp2_with fail
   have HA2:∀x:Nat,x=hexC (v%16)→Blk (wr.setCell ⟨w.heap.size,i,none⟩ (.int .u8 (x:Int))) w.heap.size 190 (row 65 (hxF i (hexC (v%16)::ds))):=fun x e=>by
    subst e
    have h:=HA.out.set i (.int .u8 ((hexC (v%16):Nat):Int))
    rwa [row_set,hxF_put]at h
   refine⟨⟨v/16,i,hexC (v%16)::ds,rfl,rfl,by have:=HI.out;simp;omega,?_,?_,?_,?_,HA2 _ (digs_get _ (strB_eq rfl) _ (Nat.mod_lt _ (by omega)) _),HB.out.setCell (Nat.le_refl _) _⟩,by simp [intOf];omega⟩
   · rw [←HX.out,hex_hi (show ¬v<16 by omega),List.append_assoc];rfl
   ·
    have h3:=HLE.out
    have h4:=Nat.div_mul_le_self v 16
    have h5:v/16*16*16 ^ ds.length≤v*16 ^ ds.length:=Nat.mul_le_mul_right _ h4
    rw [List.length_cons,Nat.pow_succ,Nat.mul_comm (16 ^ ds.length),←Nat.mul_assoc]
    omega
   · exact .inr (by omega)
   ·
    intro x hx
    rcases List.mem_cons.1 hx with h|h
    · have:=hexC_dig (v%16) (Nat.mod_lt _ (by omega));omega
    · exact HD.out x h
  ·
   have hv1:¬(16:Int)≤(v:Int):=by omega
   have hlen:ds.length<64:=by
    rcases Nat.lt_or_ge ds.length 8 with h|h
    · omega
    ·
     have h1:16 ^ 8≤16 ^ ds.length:=Nat.pow_le_pow_right (by omega) h
     have h3:=HLE.out
     have h4:=HU.out
     rcases HV0.out with h5|h5
     · rw [h5]at h;simp at h
     ·
      have h2:1*16 ^ ds.length≤v*16 ^ ds.length:=Nat.mul_le_mul_right _ h5
      omega
   obtain⟨i,rfl⟩:∃k,i=k+1:=⟨i-1,by have:=HI.out;omega⟩
   have hwi:IntKind.i64.wrap (((i+1:Nat):Int)-1)=(i:Int):=by rw [IntKind.wrap_i64];have:=HI.out;omega
   have hi0:(0:Int)≤(i:Int):=by omega
   have hi65:(i:Int)<65:=by have:=HI.out;omega
   have f0:=HA.out.thaw i
   have c0:=HA.out.cell i
   rw [row_at (by have:=HI.out;omega)]at c0
   have HA3:∀x:Nat,x=hexC v→Blk (wr.setCell ⟨w.heap.size,i,none⟩ (.int .u8 (x:Int))) w.heap.size 190 (row 65 (hxF i (hexC v::ds))):=fun x e=>by
    subst e
    have h:=HA.out.set i (.int .u8 ((hexC v:Nat):Int))
    rwa [row_set,hxF_put]at h
   have HXX:=Lib.hid (show hexC v::ds=hexOf u by rw [←HX.out,hex_lo (show v<16 by omega)];rfl)
   have HN:=Lib.hid (show 65-i=(hexC v::ds).length by have:=HI.out;simp;omega)
   have HIL:=Lib.hid (show i+(hexC v::ds).length=65 by have:=HI.out;simp;omega)
   have hsl:=slice65 w.heap.size i (by have:=HI.out;omega)
   go_upto_region 30 with fail
   go_wp2_with fail
   rw [conv_hex (HA3 _ (digs_get _ (by exact strB_eq rfl) v (by omega) _)) HIL.out HN.out]
   go_wp2_with fail
   go_ret2
   exact⟨by rw [HXX.out];rfl,HB.out.setCell (Nat.le_refl _) _⟩
set_option maxRecDepth 100000 in
set_option maxHeartbeats 4000000 in
theorem hexIn_any (u:Nat) (hu:u<4294967296) (w:World) (h:TzAt w) (h5:7<w.heap.size):
  Calls Tryz.prog 113 #[.int .u64 (u:Int),.int .i64 16] w fun e w'=>e=.returned (.string (strB (hexOf u)))∧Below w.heap.size w w':=by
 go_enter Tryz.func113,Tryz.ntmps113
 go_wp2_with fail
 refine(bits_any u hu w h h5).mono ?_
 rintro e w2 ⟨rfl,hb⟩
 go_wp2_with fail
 go_ret
 exact⟨rfl,hb⟩
set_option maxRecDepth 100000 in
set_option maxHeartbeats 4000000 in
theorem hex_any (u:Nat) (hu:u<4294967296) (w:World) (h:TzAt w) (h5:7<w.heap.size):
  Calls Tryz.prog 89 #[.int .u64 (u:Int),.int .i64 16] w fun e w'=>e=.returned (.string (strB (hexOf u)))∧Below w.heap.size w w':=by
 go_enter Tryz.func89,Tryz.ntmps89
 go_wp2_with fail
 refine(hexIn_any u hu w h h5).mono ?_
 rintro e w2 ⟨rfl,hb⟩
 go_wp2_with fail
 go_ret
 exact⟨rfl,hb⟩
end Dr
namespace TextLaw
def dec (n:Nat):List Nat:=if n<10 then [n]else dec (n/10)++[n%10]
termination_by n
decreasing_by omega
theorem dec_lo {n:Nat} (h:n<10):dec n=[n]:=by rw [dec,if_pos h]
theorem dec_hi {n:Nat} (h:¬n<10):dec n=dec (n/10)++[n%10]:=by rw [dec,if_neg h]
def top (w:Nat):List Nat:=if w=0 then []else dec w
theorem dec_top (w:Nat):top (w/10)++[w%10]=dec w:=by
 unfold top
 by_cases h:w<10
 · rw [if_pos (by omega),dec_lo h,Nat.mod_eq_of_lt h];rfl
 · rw [if_neg (by omega),dec_hi h]
theorem top_step {w:Nat} (h:0<w):top (w/10)++[w%10]=top w:=by
 rw [dec_top,top,if_neg (by omega)]
theorem dec_small (n:Nat):∀x∈dec n,x<10:=by
 induction n using Nat.strongRecOn with
 |_ n ih=>
  by_cases h:n<10
  · rw [dec_lo h];simp;exact h
  ·
   rw [dec_hi h]
   intro x hx
   rcases List.mem_append.1 hx with h1|h1
   · exact ih _ (by omega) x h1
   · simp at h1;omega
theorem dec_pos (n:Nat):0<(dec n).length:=by
 by_cases h:n<10
 · rw [dec_lo h];simp
 · rw [dec_hi h];simp
theorem dec_length (k n:Nat) (h:n<10 ^ (k+1)):(dec n).length≤k+1:=by
 induction k generalizing n with
 |zero=>rw [dec_lo (by simpa using h)];simp
 |succ k ih=>
  by_cases h1:n<10
  · rw [dec_lo h1];simp
  ·
   rw [dec_hi h1]
   have:=ih (n/10) (by rw [Nat.pow_succ]at h;omega)
   simp;omega
theorem dec_length_le (n:Nat):(dec n).length≤n+1:=by
 induction n using Nat.strongRecOn with
 |_ n ih=>
  by_cases h:n<10
  · rw [dec_lo h];simp
  ·
   rw [dec_hi h]
   have:=ih (n/10) (by omega)
   simp;omega
def fr:Nat→Nat→List Nat
 |0,_=>[]
 |k+1,p=>(10*p/4294967296)::fr k (10*p%4294967296)
def frT:Nat→Nat→List Nat
 |0,_=>[]
 |k+1,p=>if p=0 then []else(10*p/4294967296)::frT k (10*p%4294967296)
theorem frT_length:∀k p,(frT k p).length≤k
 |0,_=>Nat.le_refl _
 |k+1,p=>by
  unfold frT
  split
  · simp
  · have:=frT_length k (10*p%4294967296);simp;omega
theorem frT_zero (k:Nat):frT k 0=[]:=by cases k<;>simp [frT]
theorem frT_small:∀k p,p<4294967296→∀x∈frT k p,x<10
 |0,_,_=>by simp [frT]
 |k+1,p,h=>by
  have ih:=frT_small k (10*p%4294967296) (Nat.mod_lt _ (by omega))
  unfold frT
  split
  · simp
  ·
   intro x hx
   rcases List.mem_cons.1 hx with h1|h1
   · omega
   · exact ih x h1
def Ends (k p:Nat):Prop:=p<4294967296∧∃m,p=2 ^ (32-k)*m
theorem Ends.zero {p:Nat} (h:Ends 0 p):p=0:=by
 obtain⟨h1,m,h2⟩:=h
 rw [show(32:Nat)-0=32 from rfl]at h2
 omega
theorem Ends.step {k p:Nat} (hk:k+1≤32) (h:Ends (k+1) p):Ends k (10*p%4294967296):=by
 obtain⟨h1,m,h2⟩:=h
 refine⟨Nat.mod_lt _ (by omega),(5*m)%2 ^ k,?_⟩
 have e1:10*p=2 ^ (32-k)*(5*m):=by
  rw [h2,show 32-k=(32-(k+1))+1 by omega,Nat.pow_succ]
  generalize 2 ^ (32-(k+1))=q
  rw [Nat.mul_assoc q 2,←Nat.mul_assoc 2 5,show 2*5=10 from rfl,←Nat.mul_assoc q,Nat.mul_comm q 10,Nat.mul_assoc]
 rw [e1,show 4294967296=2 ^ (32-k)*2 ^ k by rw [←Nat.pow_add,show 32-k+k=32 by omega],Nat.mul_mod_mul_left]
theorem ends_all {p:Nat} (h:p<4294967296):Ends 32 p:=⟨h,p,by simp⟩
theorem frT_step {k p:Nat} (hp:0<p):frT (k+1) p=(10*p/4294967296)::frT k (10*p%4294967296):=by
 show(if p=0 then []else _)=_
 rw [if_neg (by omega)]
theorem frT_pos {k p:Nat} (hk:k≤32) (h:Ends k p) (hp:0<p):0<(frT k p).length:=by
 cases k with
 |zero=>have:=h.zero;omega
 |succ k=>rw [frT_step hp];simp
def textOf (a:Int):List Nat:=
 (if a<0 then [45]else [])++((dec (a.natAbs/4294967296)).map (· +48)++(if a.natAbs%4294967296=0 then []else 46::(frT 32 (a.natAbs%4294967296)).map (· +48)))
end TextLaw
namespace Tx
open Go.RowKit Mem
theorem wpList_append_at {P:Program} (w:World) {ops:Array Oper} {rest:List Oper} {o:Oper} {a:Act} {Q:Exit→Act→World→Prop} (hgd:o.guard=none) (s x:Operand) (t:TypeId)
  (ho:o.op=.call { callee:=.builtin .append,args:=#[s,x],argTypes:=#[t,t] }) (base:Nat) {e:TypeId} {z:Value} {size bytes:Nat} (E:Elem P t e z size bytes)
  {v:Value} {n:Nat} {xs:List Value} (hs:a.eval s=v) (hown:w.ownsRow base e size v n xs) {B b o' m c:Nat} {news:List Value} (hx:a.eval x=.slice (some ⟨b,o',none⟩) m c) (hr:Rd w B size (some ⟨b,o',none⟩) m news) (hm:0<m) (h1:∀u∈news,u.oneCell'=true)
  (h63:n+m≤maxLen) (hbytes:(n+m)*bytes≤140737488355328) (hbase:base≤w.heap.size)
  (h:∀v' w',w'.ownsRow base e size v' (n+m) (xs++news)→w.grownBy w' v.ownBlock→(v'.ownBlock=v.ownBlock∨v'.ownBlock=some w.heap.size)→wpList P ops Q rest (a.put o.dst v') w'):
  wpList P ops Q (o::rest) a w:=by
 obtain⟨i,hi,hz0,hz1,hz2⟩:=info_parts E.info
 refine wpList_append_own_at w hgd s x t ho base e i z size bytes E.und hi hz0 hz1 hz2 E.cells E.pos v n xs hs hown ⟨b,o',none⟩ m c news hx hr.1 (fun j u hu=>?_) h1 h63 hbytes hbase (fun v' w' k1 k2 _ k4=>h v' w' k1 k2 k4)
 obtain⟨b2,o2,he,hb,hc⟩:=hr.2 hm
 injection he with he
 injection he with e1 e2
 subst e1 e2
 have e1:(⟨b,o',none⟩:Addr).add j=⟨b,o'+j,none⟩:=by unfold Addr.add;split<;>simp_all
 rw [e1]
 exact hc j u hu
theorem rd_single (w:World) (v:Value) (e:TypeId):Rd (w.alloc (.cells #[v] e)) (w.heap.size+1) 1 (some ⟨w.heap.size,0,none⟩) 1 [v]:=by
 refine⟨rfl,fun _=>⟨w.heap.size,0,rfl,by omega,fun j u hu=>?_⟩⟩
 have h:=(Blk.fresh w e #[v]).cell j
 rw [Nat.zero_add,h]
 simpa using hu
theorem own_after {w:World} {base:Nat} {e:TypeId} {size n:Nat} {v v' d:Value} {xs:List Value} (h:w.ownsRow base e size d n xs) (hne:d.ownBlock=none∨d.ownBlock≠v.ownBlock) (ho:v'.ownBlock=v.ownBlock∨v'.ownBlock=some w.heap.size):d.ownBlock=none∨d.ownBlock≠v'.ownBlock:=by
 rcases ho with e1|e1
 · rw [e1];exact hne
 ·
  right
  rw [e1]
  intro e2
  have:=(h.lt _ e2).2
  omega
end Tx
end Go.Proofs.YtljpoibnkkcjdaaGreatDoor
