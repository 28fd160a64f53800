import Derived.Test.YtljpoibnkkcjdaaGreatDoorPc34
set_option linter.unusedVariables false
set_option linter.unusedSimpArgs false
namespace Go.Proofs.YtljpoibnkkcjdaaGreatDoor
namespace Dr
open Go.RowKit Mem Rws Sm Nd Cl Cf ReadLaw Pl Tx TextLaw
def WT (gc:Nat) (OA:Option Addr) (n OC:Nat) (b:Nat):Prop:=b=gc∨(Value.slice OA n OC).ownBlock=some b
theorem exec_built {P:Program} {op:Oper} {a:Act} {w:World} (t:TypeId) (parts:Array (Nat×Operand)) (ho:op.op=.build t parts) (v:Value)
  (hrun:(Instr.build t (parts.map fun(i,x)=>(i,a.eval x))).run P w=.ok v w):(execOp a.eval op).run P w=.ok (.value v) w:=by
 unfold execOp
 simp only [ho,Sem.run_bind,hrun,Result.andThen_ok]
 rfl
theorem build_in (f:Nat→Int) (w:World):(Instr.build 48 #[(0,.agg (row 12 fun j=>.int .i64 (f j))),(1,.int .i64 (-1))]).run Tryz.prog w=.ok (.agg (row 14 (inCell f (-1) (.slice none 0 0)))) w:=by kernel_rfl
theorem row3 (f:Nat→Int):(row 3 fun j=>Value.int .i64 (f j))=#[.int .i64 (f 0),.int .i64 (f 1),.int .i64 (f 2)]:=rfl
theorem range_of {w:World} {b off m:Nat} {f:Nat→Value} (h:∀k,k<m→ w.cell? ⟨b,off+k,none⟩=some (f k)):w.rangeAt b off ((List.range m).map f):=fun k v hv=>by
 have hk:k<m:=by have:=(List.getElem?_eq_some_iff.1 hv).1;simpa using this
 rw [List.getElem?_map,List.getElem?_range hk]at hv
 injection hv with hv
 subst hv
 exact h k hk
theorem rds_ok {r:Nat→Int} (hr:∀j,j<12→Wf (r j)):∀k,k≤4→∀c∈rdsC r k,CmdK c
 |0,_,c,hc=>by cases hc
 |k+1,hk,c,hc=>by
  rcases List.mem_append.1 (show c∈rdsC r k++[rdC r k]from hc)with hc|hc
  · exact rds_ok hr k (by omega) c hc
  ·
   rw [List.mem_singleton.1 hc]
   exact⟨by omega,fun j hj=>hr _ (by omega)⟩
theorem rds_len (r:Nat→Int):∀k,(rdsC r k).length=k
 |0=>rfl
 |k+1=>by show(rdsC r k++[rdC r k]).length=_;rw [List.length_append,rds_len r k];rfl
theorem rds_txt {r:Nat→Int} (hr:∀j,j<12→Wf (r j)) (k:Nat) (hk:k≤4):(txtC (rdsC r k)).length≤200*k:=by
 have h:=txt_len _ (rds_ok hr k hk)
 rwa [rds_len]at h
theorem rds_succ (r:Nat→Int) (k:Nat) (f:Nat→Int) (hf:(fun a=>r (k*3+a))=f):txtC (rdsC r (k+1))=txtC (rdsC r k)++(lineC (.read k f)++[10]):=by
 show txtC (rdsC r k++[rdC r k])=_
 rw [txt_append,←hf]
 simp only [txtC,List.flatMap_cons,List.flatMap_nil,List.append_nil]
 rfl
theorem cmdN_txt (t0 t1 t2 t3:Int) (R:Nat→Nat→Int) (i:Nat):txtC (cmdN t0 t1 t2 t3 R i)++txtC (rdsC (R i) 4)++[102,114,97,109,101,10]=txtC (cmdN t0 t1 t2 t3 R (i+1)):=by
 show _=txtC (cmdN t0 t1 t2 t3 R i++(rdsC (R i) 4++[.frame]))
 rw [txt_append,txt_append,List.append_assoc]
 rfl
theorem goods4_mem {bad:Int}:∀ {n i:Nat},i∈goods bad n→i<n∧(i:Int)≠bad
 |0,i,h=>absurd h (by unfold goods;simp)
 |n+1,i,h=>by
  unfold goods at h
  rcases List.mem_append.1 h with h|h
  · exact⟨by have:=(goods4_mem h).1;omega,(goods4_mem h).2⟩
  ·
   split at h
   · simp at h
   ·
    rename_i hb
    simp at h
    subst h
    exact⟨by omega,hb⟩
theorem reps4_one (c:CluS) (x:InS) (hs:Sane (next c x)):∀u∈reps c x 4,u.oneCell'=true:=by
 intro u hu
 unfold reps at hu
 obtain⟨i,hi,hu⟩:=List.mem_flatMap.1 hu
 obtain⟨hi4,hib⟩:=goods4_mem hi
 have h0:=hs.ok i hi4
 rw [show(next c x).F i=G6 c x i from by show F6 c x i=_;unfold F6;rw [newK_good hi4 hib]]at h0
 have h:=rep_one h0
 rw [Array.all_eq_true']at h
 exact h u (by simpa using hu)
theorem head_flat (nd fr:Nat) (hnd:nd<10) (hfr:fr<100) (u p:Nat→Int):headL nd fr u p=[110,111,100,101,32]++[48+nd]++[32,102,114,97,109,101,32]++smallT fr++[32]++textOf (u 0)++[62]++textOf (p 0)++[32]++textOf (u 1)++[62]++textOf (p 1)++[32]++textOf (u 2)++[62]++textOf (p 2)++[32]:=by
 unfold headL headT
 rw [decC_small fr hfr,decC_small nd (by omega),show smallT nd=[48+nd]from if_pos hnd]
 simp only [axs,axT,List.append_assoc,List.nil_append,List.cons_append]
theorem smallT_len (n:Nat):(smallT n).length≤2:=by unfold smallT;split<;>simp
theorem gs16 (e s a0 b0 a1 b1 a2 b2:Nat) (he:e=1) (hs:s≤2) (h0:a0≤44) (h1:b0≤44) (h2:a1≤44) (h3:b1≤44) (h4:a2≤44) (h5:b2≤44):¬9223372036854775807<5+e∧¬9223372036854775807<5+e+7∧¬9223372036854775807<5+e+7+s∧¬9223372036854775807<5+e+7+s+1∧¬9223372036854775807<5+e+7+s+1+a0∧¬9223372036854775807<5+e+7+s+1+a0+1∧¬9223372036854775807<5+e+7+s+1+a0+1+b0∧¬9223372036854775807<5+e+7+s+1+a0+1+b0+1∧¬9223372036854775807<5+e+7+s+1+a0+1+b0+1+a1∧¬9223372036854775807<5+e+7+s+1+a0+1+b0+1+a1+1∧¬9223372036854775807<5+e+7+s+1+a0+1+b0+1+a1+1+b1∧¬9223372036854775807<5+e+7+s+1+a0+1+b0+1+a1+1+b1+1∧¬9223372036854775807<5+e+7+s+1+a0+1+b0+1+a1+1+b1+1+a2∧¬9223372036854775807<5+e+7+s+1+a0+1+b0+1+a1+1+b1+1+a2+1∧¬9223372036854775807<5+e+7+s+1+a0+1+b0+1+a1+1+b1+1+a2+1+b2∧¬9223372036854775807<5+e+7+s+1+a0+1+b0+1+a1+1+b1+1+a2+1+b2+1∧5+e+7+s+1+a0+1+b0+1+a1+1+b1+1+a2+1+b2+1≤400:=by
 refine⟨?_,?_,?_,?_,?_,?_,?_,?_,?_,?_,?_,?_,?_,?_,?_,?_,?_⟩<;>omega
theorem wrap48 (nd:Nat) (h:nd<10):IntKind.i64.wrap (48+(nd:Int))=((48+nd:Nat):Int)∧IntKind.i32.wrap ((48+nd:Nat):Int)=((48+nd:Nat):Int):=⟨by rw [IntKind.wrap_i64];omega,by rw [IntKind.wrap_i32];omega⟩
theorem size_cut (P hd tl X:List Nat):(strB ((P++(hd++tl++[10]))++X)).size=P.length+(hd.length+tl.length+1)+X.length:=by
 rw [strB_size]
 simp only [List.length_append,List.length_cons,List.length_nil]
theorem ext_cut (P hd tl X:List Nat):(strB ((P++(hd++tl++[10]))++X)).extract P.length (P.length+hd.length)=strB hd:=by
 rw [strB_extract,Nat.add_sub_cancel_left,List.append_assoc,List.drop_left,List.append_assoc,List.append_assoc,List.take_left]
theorem get_cut (P hd tl X:List Nat) (b:Nat) (hb:b≤hd.length+tl.length):((P++(hd++tl++[10]))++X).getD (P.length+b) 0=if b<hd.length+tl.length then(hd++tl).getD b 0 else 10:=by
 rw [List.getD_eq_getElem?_getD,List.append_assoc,List.getElem?_append_right (by omega),Nat.add_sub_cancel_left,List.getElem?_append_left (by simp only [List.length_append,List.length_cons,List.length_nil];omega)]
 by_cases h:b<hd.length+tl.length
 · rw [if_pos h,List.getElem?_append_left (by rw [List.length_append];exact h),←List.getD_eq_getElem?_getD]
 ·
  rw [if_neg h,List.getElem?_append_right (by rw [List.length_append];omega),List.length_append,show b-(hd.length+tl.length)=0 by omega]
  rfl
theorem get_plain (hd tl:List Nat) (hh:∀x∈hd,32≤x) (ht:∀x∈tl,32≤x) (b:Nat) (hb:b<hd.length+tl.length):32≤(hd++tl).getD b 0:=by
 rw [List.getD_eq_getElem?_getD,List.getElem?_eq_getElem (by rw [List.length_append];exact hb)]
 rcases List.mem_append.1 (List.getElem_mem (l:=hd++tl) (by rw [List.length_append];exact hb))with h|h
 · exact hh _ h
 · exact ht _ h
theorem txt_zero (t0 t1 t2 t3:Int) (R:Nat→Nat→Int):txtC (cmdN t0 t1 t2 t3 R 0)=[116,117,110,101,32]++textOf t0++[32]++textOf t1++[32]++textOf t2++[32]++textOf t3++[10]:=by
 simp only [cmdN,txtC,List.flatMap_cons,List.flatMap_nil,lineC,wordsOf,joinW,List.append_assoc,List.cons_append,List.nil_append,List.append_nil]
theorem mem_getD {α:Type} [Inhabited α] {xs:List α} {i:Nat} (h:i<xs.length):xs.getD i default∈xs:=by rw [List.getD_eq_getElem?_getD,List.getElem?_eq_getElem h];exact List.getElem_mem _
theorem tells_of (xs:List InS) (n:Nat) (h1:n≤79) (h2:n≤xs.length) (hw:∀x∈xs,∀i,i<12→Wf (x.rd i)):Tells ((List.range n).map fun i=>(⟨cutR (xs.getD i default).rd,-1,[]⟩:InS)) (fun i=>(xs.getD i default).rd):=by
 refine⟨by rw [List.length_map,List.length_range];exact h1,fun i hi=>?_,fun i hi j hj=>?_⟩
 ·
  rw [List.length_map,List.length_range]at hi
  rw [List.getD_eq_getElem?_getD,List.getElem?_map,List.getElem?_range hi];rfl
 ·
  rw [List.length_map,List.length_range]at hi
  exact hw _ (mem_getD (by omega)) j hj
set_option maxRecDepth 100000 in
set_option maxHeartbeats 16000000 in
theorem walk:WalkSaid:=by
 intro t0 t1 t2 t3 ht A c xs hxl hxc hxw m w h hm hz h5
 have HIN:=Lib.hid h
 have HT:=Lib.hid ht
 have HM:=Lib.hid hm
 have HZ:=Lib.hid hz
 obtain⟨n,hn⟩:∃n,n=if xs.length≤79 then xs.length else 79:=⟨_,rfl⟩
 have hn79:n≤79:=by rw [hn];split<;>omega
 have hnx:n≤xs.length:=by rw [hn];split<;>omega
 have HTL:=Lib.hid (tells_of xs n hn79 hnx hxw)
 obtain⟨R,hR⟩:∃R,(fun i=>(xs.getD i default).rd)=R:=⟨_,rfl⟩
 obtain⟨ys,hys⟩:∃ys,((List.range n).map fun i=>(⟨cutR (xs.getD i default).rd,-1,[]⟩:InS))=ys:=⟨_,rfl⟩
 have hyl:ys.length=n:=by rw [←hys,List.length_map,List.length_range]
 rw [hR,hys]at HTL
 have HR:=Lib.hid (fun i=>congrFun hR i)
 have HYL:=Lib.hid hyl
 clear hys hR hyl
 have q0:=wf_rng ht.1
 have q1:=wf_rng ht.2.1
 have q2:=wf_rng ht.2.2.1
 have q3:=wf_rng ht.2.2.2
 obtain⟨T0,hT0⟩:∃T,T=strB (textOf t0):=⟨_,rfl⟩
 have It0:=Lib.hid (show ∀v,Calls Tryz.prog 4 #[.int .i64 t0] v fun e w'=>e=.returned (.string T0)∧Below v.heap.size v w' from fun v=>by rw [hT0];exact Tx.fixText_any t0 v q0)
 have l0:T0.size≤44:=by rw [hT0,strB_size];exact ReadLaw.text_len _ q0
 obtain⟨T1,hT1⟩:∃T,T=strB (textOf t1):=⟨_,rfl⟩
 have It1:=Lib.hid (show ∀v,Calls Tryz.prog 4 #[.int .i64 t1] v fun e w'=>e=.returned (.string T1)∧Below v.heap.size v w' from fun v=>by rw [hT1];exact Tx.fixText_any t1 v q1)
 have l1:T1.size≤44:=by rw [hT1,strB_size];exact ReadLaw.text_len _ q1
 obtain⟨T2,hT2⟩:∃T,T=strB (textOf t2):=⟨_,rfl⟩
 have It2:=Lib.hid (show ∀v,Calls Tryz.prog 4 #[.int .i64 t2] v fun e w'=>e=.returned (.string T2)∧Below v.heap.size v w' from fun v=>by rw [hT2];exact Tx.fixText_any t2 v q2)
 have l2:T2.size≤44:=by rw [hT2,strB_size];exact ReadLaw.text_len _ q2
 obtain⟨T3,hT3⟩:∃T,T=strB (textOf t3):=⟨_,rfl⟩
 have It3:=Lib.hid (show ∀v,Calls Tryz.prog 4 #[.int .i64 t3] v fun e w'=>e=.returned (.string T3)∧Below v.heap.size v w' from fun v=>by rw [hT3];exact Tx.fixText_any t3 v q3)
 have l3:T3.size≤44:=by rw [hT3,strB_size];exact ReadLaw.text_len _ q3
 have g0:¬9223372036854775807<5+T0.size:=by omega
 have g1:¬9223372036854775807<5+T0.size+1:=by omega
 have g2:¬9223372036854775807<5+T0.size+1+T1.size:=by omega
 have g3:¬9223372036854775807<5+T0.size+1+T1.size+1:=by omega
 have g4:¬9223372036854775807<5+T0.size+1+T1.size+1+T2.size:=by omega
 have g5:¬9223372036854775807<5+T0.size+1+T1.size+1+T2.size+1:=by omega
 have g6:¬9223372036854775807<5+T0.size+1+T1.size+1+T2.size+1+T3.size:=by omega
 have g7:¬9223372036854775807<5+T0.size+1+T1.size+1+T2.size+1+T3.size+1:=by omega
 have HS0:=Lib.hid (show({ data:=#[116,117,110,101,32] }:ByteArray)++T0++{ data:=#[32] }++T1++{ data:=#[32] }++T2++{ data:=#[32] }++T3++{ data:=#[10] }=strB (txtC (cmdN t0 t1 t2 t3 R 0))from by
  rw [txt_zero]
  exact(cat _ _ _ _ (cat _ _ _ _ (cat _ _ _ _ (cat _ _ _ _ (cat _ _ _ _ (cat _ _ _ _ (cat _ _ _ _ (cat _ _ _ _ (strB_eq rfl:_=strB [116,117,110,101,32]) hT0) (strB_eq rfl:_=strB [32])) hT1) (strB_eq rfl:_=strB [32])) hT2) (strB_eq rfl:_=strB [32])) hT3) (strB_eq rfl:_=strB [10])))
 have B3:=Lib.hid (show Blk (w.alloc (.cells #[.int .i64 t0,.int .i64 t1,.int .i64 t2,.int .i64 t3] 23)) w.heap.size 23 #[.int .i64 t0,.int .i64 t1,.int .i64 t2,.int .i64 t3]from Blk.fresh _ _ _)
 have hb:Below w.heap.size w (w.alloc (.cells #[.int .i64 t0,.int .i64 t1,.int .i64 t2,.int .i64 t3] 23)):=(Below.refl _ _).alloc (Nat.le_refl _) _
 have HB:=Lib.hid hb
 clear h hb ht hm hz hxw q0 q1 q2 q3 hT0 hT1 hT2 hT3 l0 l1 l2 l3
 go_enter Tryz.func3,Tryz.ntmps3
 go_upto_if 21 with fail
 generalize(w.alloc (.cells #[.int .i64 t0,.int .i64 t1,.int .i64 t2,.int .i64 t3] 23))=w1 at*
 obtain⟨gt,hgt⟩:∃g,w.heap.size=g:=⟨_,rfl⟩
 have HGT:=Lib.hid hgt
 rw [hgt]at B3 HB ⊢
 clear hgt
 go_cut [1] (fun v wx=>v=.slice A n c∧wx=w1)
 case first=>
  by_cases h79:xs.length≤79
  ·
   have hd:decide ((79:Int)<(xs.length:Int))=false:=decide_eq_false (by omega)
   have e79:n=xs.length:=by rw [hn,if_pos h79]
   go_wp2_with fail
   go_meet
   exact⟨by rw [e79],rfl⟩
  ·
   have hd:decide ((79:Int)<(xs.length:Int))=true:=decide_eq_true (by omega)
   have e79:n=79:=by rw [hn,if_neg h79]
   have hc79:79≤c:=by omega
   obtain⟨b,o,LA,LC,rfl,_,_,_⟩:=HIN.out.at (i:=0) (x:=xs.getD 0 default) (by rw [List.getD_eq_getElem?_getD,List.getElem?_eq_getElem (by omega)];rfl)
   go_wp2_with fail
   go_meet
   exact⟨by rw [e79],rfl⟩
 case rest=>
  obtain⟨rfl,rfl⟩:=hcut
  clear hn hxc hxl
  have B3_0:=B3
  clear B3
  have c0:=B3_0.out.cell 0
  have c1:=B3_0.out.cell 1
  have c2:=B3_0.out.cell 2
  have c3:=B3_0.out.cell 3
  go_upto_region 3 with fail
  go_region_held3 (fun w'=> w'.cell? ⟨gt,0,none⟩=some (.int .i64 t0)∧ w'.cell? ⟨gt,1,none⟩=some (.int .i64 t1)∧ w'.cell? ⟨gt,2,none⟩=some (.int .i64 t2)∧ w'.cell? ⟨gt,3,none⟩=some (.int .i64 t3)) (first|exact⟨c0,c1,c2,c3⟩) (first
    |(go_at_call_of 4 (Value.int .i64 t0);refine(It0.out _).mono ?_;rintro e w2 ⟨rfl,hb2⟩;have hb3:=und hb2;have B3_1:=Lib.hid ((B3_0).out.below hb3 (B3_0).out.lt);have c0:=B3_1.out.cell 0;have c1:=B3_1.out.cell 1;have c2:=B3_1.out.cell 2;have c3:=B3_1.out.cell 3;have HB:=Lib.hid (onward HB.out (Nat.le_of_eq HGT.out.symm) hb3);clear hb2 hb3)
    |(go_at_call_of 4 (Value.int .i64 t1);refine(It1.out _).mono ?_;rintro e w2 ⟨rfl,hb2⟩;have hb3:=hb2;have B3_2:=Lib.hid ((B3_1).out.below hb3 (B3_1).out.lt);have c0:=B3_2.out.cell 0;have c1:=B3_2.out.cell 1;have c2:=B3_2.out.cell 2;have c3:=B3_2.out.cell 3;have HB:=Lib.hid (onward HB.out (Nat.le_of_eq HGT.out.symm) hb3);clear hb2 hb3)
    |(go_at_call_of 4 (Value.int .i64 t2);refine(It2.out _).mono ?_;rintro e w2 ⟨rfl,hb2⟩;have hb3:=hb2;have B3_3:=Lib.hid ((B3_2).out.below hb3 (B3_2).out.lt);have c0:=B3_3.out.cell 0;have c1:=B3_3.out.cell 1;have c2:=B3_3.out.cell 2;have c3:=B3_3.out.cell 3;have HB:=Lib.hid (onward HB.out (Nat.le_of_eq HGT.out.symm) hb3);clear hb2 hb3)
    |(go_at_call_of 4 (Value.int .i64 t3);refine(It3.out _).mono ?_;rintro e w2 ⟨rfl,hb2⟩;have hb3:=hb2;have B3_4:=Lib.hid ((B3_3).out.below hb3 (B3_3).out.lt);have c0:=B3_4.out.cell 0;have c1:=B3_4.out.cell 1;have c2:=B3_4.out.cell 2;have c3:=B3_4.out.cell 3;have HB:=Lib.hid (onward HB.out (Nat.le_of_eq HGT.out.symm) hb3);clear hb2 hb3))
  generalize(({ data:=#[116,117,110,101,32] }:ByteArray)++T0++{ data:=#[32] }++T1++{ data:=#[32] }++T2++{ data:=#[32] }++T3++{ data:=#[10] })=S0 at*
  clear c0 c1 c2 c3 It0 It1 It2 It3 g0 g1 g2 g3 g4 g5 g6 g7 B3_0 B3_1 B3_2 B3_3
  go_wp2_with(refine wpList_whole rfl 23 _ rfl gt rfl B3_4.out _ Tryz.underlying23 rfl (by kernel_rfl) ?_)
  refine(cluster_any t0 t1 t2 t3 _).mono ?_
  rintro e w2 ⟨rfl,hb⟩
  rw [begin_row]
  have HB2:=Lib.hid (onward HB.out (Nat.le_of_eq HGT.out.symm) hb)
  have i0:(Tryz.prog.info? 42).map (·.size)=some (row 297 (cluCell (beginS t0 t1 t2 t3).fr (beginS t0 t1 t2 t3).F (verOf (fun _=>none) (beginS t0 t1 t2 t3).V (fun _=>0)))).size:=by rw [row_size];kernel_rfl
  have z0:(Tryz.zeroCells42).size=(row 297 (cluCell (beginS t0 t1 t2 t3).fr (beginS t0 t1 t2 t3).F (verOf (fun _=>none) (beginS t0 t1 t2 t3).V (fun _=>0)))).size:=by rw [row_size];kernel_rfl
  have o0:=row_one (cluCell_one (sane_begin HT.out).ok (beginS t0 t1 t2 t3).fr (beginS t0 t1 t2 t3).V (fun _=>none) (fun _=>0))
  obtain⟨R0,hR0⟩:∃R,(row 297 (cluCell (beginS t0 t1 t2 t3).fr (beginS t0 t1 t2 t3).F (verOf (fun _=>none) (beginS t0 t1 t2 t3).V (fun _=>0))))=R:=⟨_,rfl⟩
  rw [hR0]at i0 z0 o0 ⊢
  have HR0:=Lib.hid hR0
  clear hR0 hb B3_4 HB
  have F1:Hid (Blk (w2.alloc (.cells Tryz.zeroCells42 42)) w2.heap.size 42 Tryz.zeroCells42):=Lib.hid (Blk.fresh _ _ _)
  have hgc0:gt≤w2.heap.size:=by rw [←HGT.out];exact HB2.out.size
  have hbS:=below_setRow ((Below.refl w2.heap.size w2).alloc (Nat.le_refl _) (.cells Tryz.zeroCells42 42)) (Nat.le_refl _) R0
  have HB:=Lib.hid (onward HB2.out (Nat.le_of_eq HGT.out.symm) hbS)
  go_upto_region 5 with(refine wpList_store_row rfl 42 _ _ rfl w2.heap.size R0 rfl rfl 42 _ F1.out i0 z0 o0 ?_)
  have BC:=Lib.hid (F1.out.setRow R0)
  clear F1 i0 z0 o0 hbS HB2
  generalize((w2.alloc (.cells Tryz.zeroCells42 42)).setRow w2.heap.size R0)=w3 at*
  obtain⟨gc,hgc⟩:∃g,w2.heap.size=g:=⟨_,rfl⟩
  rw [hgc]at BC hgc0 ⊢
  clear hgc
  have HIN:=Lib.hid (show InsAt w3 gc A xs from((HIN.out.below (by rw [HGT.out];exact HB.out)).more (by rw [HGT.out];exact hgc0)))
  have HC3:=Lib.hid (show gc≤w3.heap.size from Nat.le_of_lt BC.out.lt)
  have HGG:=Lib.hid hgc0
  clear hgc0
  have HS1:=Lib.hid (show S0.size≤200*(1+5*0)from by rw [HS0.out,strB_size];have h1:=txt_len _ (cmdN_ok HT.out HTL.out 0 (Nat.zero_le _));rw [cmdN_len]at h1;exact h1)
  go_wp2_with fail
  go_loopw [5,7,8] (fun s u v wr=>∃(i:Nat) (SS:ByteArray) (VA:Nat→Option Addr) (VC:Nat→Nat) (OA:Option Addr) (OC:Nat),i≤n∧s=.string SS∧SS=strB (txtC (cmdN t0 t1 t2 t3 R i))∧u=.slice OA (4*i) OC∧v=.int .i64 (i:Int)∧Blk wr gc 42 (row 297 (cluCell (runS t0 t1 t2 t3 ys i).fr (runS t0 t1 t2 t3 ys i).F (verOf VA (runS t0 t1 t2 t3 ys i).V VC)))∧VerOk wr (runS t0 t1 t2 t3 ys i) VA VC (WT gc OA (4*i) OC)∧wr.ownsRow gc 56 14 (.slice OA (4*i) OC) (4*i) (allR t0 t1 t2 t3 ys i)∧Below gc w3 wr) (fun _ _ v _=>n-(intOf v).toNat)
  case atStart=>exact⟨0,S0,fun _=>none,fun _=>0,none,0,by omega,rfl,HS0.out,rfl,rfl,by show Blk w3 gc _ (row 297 (cluCell (beginS t0 t1 t2 t3).fr (beginS t0 t1 t2 t3).F (verOf (fun _=>none) (beginS t0 t1 t2 t3).V (fun _=>0))));rw [HR0.out];exact BC.out,fun j hj=>⟨fun _=>rfl,by show(([]:List Bool)).length≤_;simp,Rd.nil _ _ _ _,fun hn=>absurd hn (by show ¬0<(([]:List Bool)).length;simp)⟩,World.ownsRow_nil _ _ _ _,Below.refl _ _⟩
  case round=>
   obtain⟨i,SS,VA,VC,OA,OC,hi,rfl,hss,rfl,rfl,hbc,hvo,hoo,hbw⟩:=hrel
   have BC:=Lib.hid hbc
   have HVO:=Lib.hid hvo
   have HOO:=Lib.hid hoo
   have HBW:=Lib.hid hbw
   have HSS1:=Lib.hid hss
   have HS2:=Lib.hid (show SS.size≤200*(1+5*i)from by rw [hss,strB_size];have h1:=txt_len _ (cmdN_ok HT.out HTL.out i (by rw [HYL.out];exact hi));rw [cmdN_len]at h1;exact h1)
   clear hbc hvo hoo hbw hss HS0 HS1
   by_cases hlt:i<n
   ·
    have hx:xs[i]?=some (xs.getD i default):=by rw [List.getD_eq_getElem?_getD,List.getElem?_eq_getElem (by omega)];rfl
    have HWR:=Lib.hid (HTL.out.2.2 i (by rw [HYL.out];exact hlt))
    have hin:=HIN.out.below HBW.out
    obtain⟨bi,oi,LA,LC,rfl,hbl,hrg,_,_,_,_⟩:=hin.at hx
    have hi0:(0:Int)≤(i:Int):=by omega
    have hi3:(i:Int)<(n:Int):=by omega
    have hwi:IntKind.i64.wrap ((i:Int)+1)=((i+1:Nat):Int):=by rw [IntKind.wrap_i64];omega
    have HCE:=Lib.hid (show ∀k,k<12→ wr.cell? ⟨bi,oi+i*14+k,none⟩=some (.int .i64 (R i k))from fun k hk=>hrg k _ (by
     rw [List.getElem?_map,List.getElem?_range (by omega),←HR.out i]
     show some (inCell _ _ _ k)=_
     unfold inCell
     rw [if_pos hk]))
    have HBL:=Lib.hid (show bi<wr.heap.size from Nat.lt_of_lt_of_le hbl (Nat.le_of_lt BC.out.lt))
    clear hin hrg hx hbl
    generalize wr=wr0 at*
    go_upto_region 10 with fail
    go_loopw [5,9] (fun s v wr=>∃(k:Nat) (S':ByteArray),k≤4∧s=.string S'∧S'=strB (txtC (cmdN t0 t1 t2 t3 R i)++txtC (rdsC (R i) k))∧v=.int .i64 (k:Int)∧Below wr0.heap.size wr0 wr) (fun _ v _=>4-(intOf v).toNat)
    case atStart=>exact⟨0,SS,by omega,rfl,by rw [HSS1.out];exact congrArg strB (List.append_nil _).symm,rfl,Below.refl _ _⟩
    case round=>
     obtain⟨k,S',hk,rfl,hs',rfl,hb⟩:=hrel
     have HB9:=Lib.hid hb
     have HS3:=Lib.hid (show S'.size≤200*(1+5*i)+200*k from by
      rw [hs',strB_size,List.length_append]
      have h1:=HS2.out
      rw [HSS1.out,strB_size]at h1
      have h2:=rds_txt HWR.out k hk
      omega)
     have HSK:=Lib.hid hs'
     clear hb hs'
     by_cases hk4:k<4
     ·
      have hkd:decide ((k:Int)<4)=true:=decide_eq_true (by omega)
      have hk0:(0:Int)≤(k:Int):=by omega
      have hk1:(k:Int)<4:=by omega
      have hwk:IntKind.i64.wrap ((k:Int)+1)=((k+1:Nat):Int):=by rw [IntKind.wrap_i64];omega
      have j1:((k:Int)).toNat=k:=Int.toNat_natCast k
      have j2:¬(k:Int)<0:=by omega
      obtain⟨f,hf⟩:∃f,(fun a=>R i (k*3+a))=f:=⟨_,rfl⟩
      have HF:=Lib.hid hf
      have HRK:=Lib.hid (show wr.rangeAt bi (oi+i*14+k*3) ((List.range 3).map fun a=>.int .i64 (f a))from range_of fun a ha=>by
       rw [←hf,Nat.add_assoc (oi+i*14)]
       exact(HB9.out.cell (p:=⟨bi,oi+i*14+(k*3+a),none⟩) HBL.out).trans (HCE.out _ (by omega)))
      obtain⟨T,hT⟩:∃T,T=strB (lineC (.read k f)++[10]):=⟨_,rfl⟩
      have hTl:T.size≤191:=by
       rw [hT,strB_size,List.length_append]
       have:=lineC_len (.read k f) ⟨hk4,fun a ha=>by rw [←hf];exact HWR.out _ (by omega)⟩
       show _+1≤_
       omega
      have HC:=Lib.hid (show ∀v,Calls Tryz.prog 6 #[.int .i64 (k:Int),.agg #[.int .i64 (f 0),.int .i64 (f 1),.int .i64 (f 2)]] v fun e w'=>e=.returned (.string T)∧Below v.heap.size v w' from fun v=>by rw [hT];exact reading_any k hk4 f (fun a ha=>by rw [←hf];exact HWR.out _ (by omega)) v)
      have hgs:¬9223372036854775807<S'.size+T.size:=by have:=HS3.out;omega
      have HTT:=Lib.hid hT
      clear hf hT hTl
      go_wp2_with(refine wpList_rng rfl 33 _ rfl bi (oi+i*14+k*3) 3 rfl (fun a=>.int .i64 (f a)) HRK.out _ Tryz.underlying33 rfl (by kernel_rfl) ?_;rw [row3])
      refine(HC.out _).mono ?_
      rintro e w9 ⟨rfl,hb⟩
      have HB10:=Lib.hid (onward HB9.out (Nat.le_refl _) hb)
      clear hb
      go_wp2_with fail
      exact⟨⟨k+1,S'++T,by omega,rfl,by rw [rds_succ _ _ _ HF.out,←List.append_assoc];exact cat _ _ _ _ HSK.out HTT.out,by go_num,HB10.out⟩,by simp [intOf];omega⟩
     ·
      obtain rfl:k=4:=by omega
      have hgs:¬9223372036854775807<S'.size+6:=by have:=HS3.out;omega
      go_upto_region 14 with fail
      have HSN:=Lib.hid (show S'++{ data:=#[102,114,97,109,101,10] }=strB (txtC (cmdN t0 t1 t2 t3 R (i+1)))from by rw [←cmdN_txt];exact cat _ _ _ _ HSK.out (strB_eq rfl:_=strB [102,114,97,109,101,10]))
      generalize S'++{ data:=#[102,114,97,109,101,10] }=S2 at*
      clear HS3 HSK hgs HSS1 HS2
      have BC:=Lib.hid (BC.out.below HB9.out BC.out.lt)
      have HVO:=Lib.hid (HVO.out.below HB9.out)
      have HOO:=Lib.hid (Nd.ownsRow_below HOO.out HB9.out)
      have HBW:=Lib.hid (onward HBW.out HC3.out HB9.out)
      have HSA:=Lib.hid (sane_run HT.out HTL.out.good i (by rw [HYL.out];omega))
      have HSN1:=Lib.hid (sane_run HT.out HTL.out.good (i+1) (by rw [HYL.out];omega))
      have HYI:=Lib.hid (HTL.out.2.1 i (by rw [HYL.out];exact hlt))
      obtain⟨rdv,hrd⟩:∃r,cutR (R i)=r:=⟨_,rfl⟩
      have HIR:=Lib.hid (show ∀a,a<12→ wr.cell? ⟨bi,oi+i*14+a,none⟩=some (.int .i64 (rdv a))from fun a ha=>by
       rw [←hrd]
       unfold cutR
       rw [if_pos ha]
       exact(HB9.out.cell (p:=⟨bi,oi+i*14+a,none⟩) HBL.out).trans (HCE.out a ha))
      have HRWF:=Lib.hid (show ∀a,a<12→Wf (rdv a)from fun a ha=>by rw [←hrd];unfold cutR;rw [if_pos ha];exact HWR.out a ha)
      have HBI:=Lib.hid (Nat.lt_of_lt_of_le HBL.out HB9.out.size)
      have HBI2:=Lib.hid (build_in rdv)
      have HNX:=Lib.hid (runS_succ t0 t1 t2 t3 ys i)
      rw [hrd]at HYI
      rw [HNX.out,HYI.out]at HSN1
      have HAR:=Lib.hid (show allR t0 t1 t2 t3 ys (i+1)=allR t0 t1 t2 t3 ys i++reps (runS t0 t1 t2 t3 ys i) (ys.getD i default) 4 from rfl)
      rw [HYI.out]at HNX HAR
      clear HCE HBL HB9 hrd HWR
      obtain⟨cl,hcl⟩:∃c,runS t0 t1 t2 t3 ys i=c:=⟨_,rfl⟩
      rw [hcl]at BC HVO HSA HSN1 HNX HAR
      clear hcl
      have iJ:(Tryz.prog.info? 42).map (·.size)=some (row 297 (cluCell cl.fr cl.F (verOf VA cl.V VC))).size:=by rw [row_size];kernel_rfl
      obtain⟨RJ,hRJ⟩:∃R,(row 297 (cluCell cl.fr cl.F (verOf VA cl.V VC)))=R:=⟨_,rfl⟩
      rw [hRJ]at BC iJ
      have HRJ:=Lib.hid hRJ
      clear hRJ
      go_cut [10,11,12] (fun p q r wx=>∃gd VA2 VC2 RA RC,p=.pointer (some ⟨gd,0,none⟩)∧q=.slice RA 4 RC∧r=.int .i64 0∧BeAt wr wx (next cl ⟨rdv,-1,[]⟩) gd VA2 VC2 RA RC 4 (reps cl ⟨rdv,-1,[]⟩ 4))
      case first=>
       have HBR:=Lib.hid (show Below wr.heap.size wr wr.drew from(Below.refl _ _).drew)
       refine wp_region_noPanic ?_
       have HSS:Blk wr.drew gc 42 RJ∧wr.drew.rangeAt bi (oi+i*14) ((List.range 12).map fun j=>.int .i64 (rdv j)):=⟨BC.out.below HBR.out BC.out.lt,range_of fun a ha=>(HBR.out.cell (p:=⟨bi,oi+i*14+a,none⟩) HBI.out).trans (HIR.out a ha)⟩
       refine Rg.beginR [0,5] (fun w'=>Blk w' gc 42 RJ∧w'.rangeAt bi (oi+i*14) ((List.range 12).map fun j=>.int .i64 (rdv j))) (by kernel_rfl) ?_
       generalize wr.drew=wv at*
       refine Rg.stp_s 0 (.agg RJ) HSS (hy:=?_) (h:=?_)
       · (intro w' hSw;exact exec_load_row 42 _ rfl _ rfl hSw.1 Tryz.underlying42 rfl iJ)
       try simp only [Rg.lp]
       refine Rg.tp 1 ⟨some 71,.move (.tmp 1),_,_,_,none⟩ (v:=?_) rfl ?_ ?_
       rotate_left 1
       · (intro w;go_simp;(try with_reducible rfl))
       try simp only [Rg.lp]
       refine Rg.tp 2 ⟨some 72,.move (.tmp 8),_,_,_,none⟩ (v:=?_) rfl ?_ ?_
       rotate_left 1
       · (intro w;go_simp;(try with_reducible rfl))
       try simp only [Rg.lp]
       refine Rg.tp 3 ⟨some 73,.indexAddr 24 (.tmp 71) (.tmp 72),_,_,_,none⟩ (v:=?_) rfl ?_ ?_
       rotate_left 1
       · (intro w;go_simp;(try with_reducible rfl))
       try simp only [Rg.lp]
       refine Rg.tp 4 ⟨some 74,.fieldAddr 48 (.tmp 73) 0,_,_,_,none⟩ (v:=?_) rfl ?_ ?_
       rotate_left 1
       · (intro w;go_simp;(try with_reducible rfl))
       try simp only [Rg.lp]
       refine Rg.stp_s 5 (.agg (row 12 fun j=>.int .i64 (rdv j))) HSS (hy:=?_) (h:=?_)
       · (intro w' hSw;exact exec_load_mid 34 _ rfl bi (oi+i*14) 12 rfl _ _ hSw.2 Tryz.underlying34 rfl (by kernel_rfl))
       try simp only [Rg.lp]
       refine Rg.tp 6 ⟨some 76,.build 48 #[(0,.tmp 75),(1,.const (.int .i64 (-1)))],_,_,_,none⟩ (v:=.agg (row 14 (inCell rdv (-1) (.slice none 0 0)))) rfl ?_ ?_
       · (intro w';exact exec_built 48 _ rfl _ (by simp only [List.map_toArray,List.map_cons,List.map_nil];exact HBI2.out w'))
       try simp only [Rg.lp]
       refine Rg.twoR (i:=7) (j:=12) (oi:=⟨some 77,.call { callee:=.value (.func 7),args:=#[.tmp 70,.tmp 76],argTypes:=_ },_,_,_,none⟩) (oj:=⟨some 10,.alloc 42,_,_,_,none⟩) (by kernel_rfl) rfl rfl ?_ ?_
       ·
        refine Rg.stepF ?_ ?_
        · kernel_rfl
        intro K hK
        rw [if_pos (by rfl)]
        clear HSS
        rw [←HRJ.out]
        go_simp
        have HVW:=Lib.hid (HVO.out.below HBR.out)
        refine(frame_any cl ⟨rdv,-1,[]⟩ HSA.out (show(-1:Int)≤ -1∧(-1:Int)≤3 by omega) HRWF.out (show([]:List Lie).length≤400 by simp) VA VC none 0 wv (fun j hj=>⟨(HVW.out j hj).1,(HVW.out j hj).2.1,(HVW.out j hj).2.2.1⟩) (LiesAt.nil _ _ _)).mono ?_
        rintro e w4 ⟨VA2,VC2,RA,RC,rfl,hv2,hown,hb⟩
        clear HVW
        rw [show(goods (-1:Int) 4).length=4 from rfl]at hown ⊢
        have iN:(Tryz.prog.info? 42).map (·.size)=some (row 297 (cluCell (next cl ⟨rdv,-1,[]⟩).fr (next cl ⟨rdv,-1,[]⟩).F (verOf VA2 (next cl ⟨rdv,-1,[]⟩).V VC2))).size:=by rw [row_size];kernel_rfl
        have zN:(Tryz.zeroCells42).size=(row 297 (cluCell (next cl ⟨rdv,-1,[]⟩).fr (next cl ⟨rdv,-1,[]⟩).F (verOf VA2 (next cl ⟨rdv,-1,[]⟩).V VC2))).size:=by rw [row_size];kernel_rfl
        have oN:=row_one (cluCell_one HSN1.out.ok (next cl ⟨rdv,-1,[]⟩).fr (next cl ⟨rdv,-1,[]⟩).V VA2 VC2)
        obtain⟨RN,hRN⟩:∃R,(row 297 (cluCell (next cl ⟨rdv,-1,[]⟩).fr (next cl ⟨rdv,-1,[]⟩).F (verOf VA2 (next cl ⟨rdv,-1,[]⟩).V VC2)))=R:=⟨_,rfl⟩
        rw [hRN]at iN zN oN ⊢
        have HRN:=Lib.hid hRN
        clear hRN
        have HV2:=Lib.hid (show ∀j,j<4→(VA2 j=none→VC2 j=0)∧((next cl ⟨rdv,-1,[]⟩).V j).length≤VC2 j∧Rd w4 w4.heap.size 1 (VA2 j) ((next cl ⟨rdv,-1,[]⟩).V j).length (boolsV ((next cl ⟨rdv,-1,[]⟩).V j))∧(0<((next cl ⟨rdv,-1,[]⟩).V j).length→∀a,VA2 j=some a→wr.heap.size≤a.block)from fun j hj=>⟨(hv2 j hj).1,(hv2 j hj).2.1,(hv2 j hj).2.2.1,fun hn a e=>Nat.le_trans HBR.out.size ((hv2 j hj).2.2.2 hn a e)⟩)
        have HOW:=Lib.hid (own_weaken hown (show wr.heap.size≤wv.heap.size from HBR.out.size))
        have HBR:=Lib.hid (onward HBR.out (Nat.le_refl _) hb)
        clear hv2 hown hb
        generalize wv=wq at*
        generalize w4=wv at*
        have HSS:Blk wv gc 42 RJ∧wv.rangeAt bi (oi+i*14) ((List.range 12).map fun j=>.int .i64 (rdv j)):=⟨BC.out.below HBR.out BC.out.lt,range_of fun a ha=>(HBR.out.cell (p:=⟨bi,oi+i*14+a,none⟩) HBI.out).trans (HIR.out a ha)⟩
        refine hK.out _ _ ?_
        clear hK K
        try simp only [Rg.lp]
        refine Rg.tp 8 ⟨some 69,.move (.tmp 77),_,_,_,none⟩ (v:=?_) rfl ?_ ?_
        rotate_left 1
        · (intro w;go_simp;(try with_reducible rfl))
        try simp only [Rg.lp]
        refine Rg.tp 9 ⟨some 78,.extract (.tmp 69) 0,_,_,_,none⟩ (v:=?_) rfl ?_ ?_
        rotate_left 1
        · (intro w;go_simp;(try with_reducible rfl))
        try simp only [Rg.lp]
        refine Rg.tp 10 ⟨some 79,.extract (.tmp 69) 1,_,_,_,none⟩ (v:=?_) rfl ?_ ?_
        rotate_left 1
        · (intro w;go_simp;(try with_reducible rfl))
        try simp only [Rg.lp]
        refine Rg.tp 11 ⟨some 80,.extract (.tmp 69) 2,_,_,_,none⟩ (v:=?_) rfl ?_ ?_
        rotate_left 1
        · (intro w;go_simp;(try with_reducible rfl))
        try simp only [Rg.lp]
        refine Rg.stp_o 12 ?_
        refine Rg.stepS ?_
        intro K hK
        go_simp
        clear HSS
        have hb:Below wv.heap.size wv (wv.alloc (.cells Tryz.zeroCells42 42)):=(Below.refl _ _).alloc (Nat.le_refl _) _
        have BD:=Lib.hid (show Blk (wv.alloc (.cells Tryz.zeroCells42 42)) wv.heap.size 42 Tryz.zeroCells42 from Blk.fresh _ _ _)
        have HDN:=Lib.hid (show ∀j,j<4→0<((next cl ⟨rdv,-1,[]⟩).V j).length→∀a,VA2 j=some a→a.block≠wv.heap.size from fun j hj hn a e=>Nat.ne_of_lt (rd_lt (HV2.out j hj).2.2.1 hn e))
        have HDO:=Lib.hid (show(Value.slice RA 4 RC).ownBlock≠some wv.heap.size from fun e=>Nat.lt_irrefl _ (HOW.out.lt _ e).2)
        have HV2:=Lib.hid (fun j (hj:j<4)=>(⟨(HV2.out j hj).1,(HV2.out j hj).2.1,((HV2.out j hj).2.2.1.below hb).more hb.size,(HV2.out j hj).2.2.2⟩:(VA2 j=none→VC2 j=0)∧((next cl ⟨rdv,-1,[]⟩).V j).length≤VC2 j∧Rd (wv.alloc (.cells Tryz.zeroCells42 42)) (wv.alloc (.cells Tryz.zeroCells42 42)).heap.size 1 (VA2 j) ((next cl ⟨rdv,-1,[]⟩).V j).length (boolsV ((next cl ⟨rdv,-1,[]⟩).V j))∧(0<((next cl ⟨rdv,-1,[]⟩).V j).length→∀a,VA2 j=some a→wr.heap.size≤a.block)))
        have HOW:=Lib.hid (Nd.ownsRow_below HOW.out hb)
        have HDG:=Lib.hid (show wr.heap.size≤wv.heap.size from HBR.out.size)
        have HBR:=Lib.hid (onward HBR.out (Nat.le_refl _) hb)
        have HDL:=Lib.hid (show wv.heap.size<((wv.alloc (.cells Tryz.zeroCells42 42))).heap.size by simp)
        clear hb
        obtain⟨gd,hgd⟩:∃g,wv.heap.size=g:=⟨_,rfl⟩
        rw [hgd]at BD HDG HDL HDN HDO ⊢
        clear hgd
        generalize(wv.alloc (.cells Tryz.zeroCells42 42))=wv at*
        have HSS:Blk wv gc 42 RJ∧wv.rangeAt bi (oi+i*14) ((List.range 12).map fun j=>.int .i64 (rdv j)):=⟨BC.out.below HBR.out BC.out.lt,range_of fun a ha=>(HBR.out.cell (p:=⟨bi,oi+i*14+a,none⟩) HBI.out).trans (HIR.out a ha)⟩
        refine hK.out _ _ HSS ?_
        clear hK K
        try simp only [Rg.lp]
        refine Rg.stp_o 13 ?_
        refine Rg.stepF ?_ ?_
        · kernel_rfl
        intro K hK
        rw [if_pos (by rfl)]
        clear HSS
        refine wp_store_row 42 _ _ rfl gd RN rfl rfl 42 _ BD.out iN zN oN ?_
        have hgr:=gr_setRowR wv gd RN
        have BD:=Lib.hid (BD.out.setRow RN)
        have HV2:=Lib.hid (fun j (hj:j<4)=>(⟨(HV2.out j hj).1,(HV2.out j hj).2.1,rd_kept (HV2.out j hj).2.2.1 hgr.size (fun hn a e=>setRow_other wv gd a.block RN (HDN.out j hj hn a e)),(HV2.out j hj).2.2.2⟩:(VA2 j=none→VC2 j=0)∧((next cl ⟨rdv,-1,[]⟩).V j).length≤VC2 j∧Rd (wv.setRow gd RN) (wv.setRow gd RN).heap.size 1 (VA2 j) ((next cl ⟨rdv,-1,[]⟩).V j).length (boolsV ((next cl ⟨rdv,-1,[]⟩).V j))∧(0<((next cl ⟨rdv,-1,[]⟩).V j).length→∀a,VA2 j=some a→wr.heap.size≤a.block)))
        have HOW:=Lib.hid (HOW.out.kept hgr (.inr HDO.out))
        have HBR:=Lib.hid (below_setRow HBR.out HDG.out RN)
        clear hgr
        generalize(wv.setRow gd RN)=wv at*
        have HSS:True:=trivial
        refine hK.out _ _ ?_
        clear hK K
        try simp only [Rg.lp]
        refine Rg.tp 14 ⟨some 11,.assign (.tmp 79),_,_,_,none⟩ (v:=?_) rfl ?_ ?_
        rotate_left 1
        · (intro w;go_simp;(try with_reducible rfl))
        try simp only [Rg.lp]
        refine Rg.tp 15 ⟨some 12,.assign (.tmp 80),_,_,_,none⟩ (v:=?_) rfl ?_ ?_
        rotate_left 1
        · (intro w;go_simp;(try with_reducible rfl))
        try simp only [Rg.lp]
        refine Rg.doneR (by kernel_rfl) ?_ _
        refine NoPanic.normal ?_
        go_wp2_with fail
        go_meet
        exact⟨gd,VA2,VC2,RA,RC,rfl,rfl,rfl,⟨by rw [HRN.out];exact BD.out,HV2.out,HOW.out,HBR.out,HDG.out⟩⟩
       ·
        refine Rg.stepS ?_
        intro K hK
        go_simp
        clear HSS
        have hb:Below wv.heap.size wv (wv.alloc (.cells Tryz.zeroCells42 42)):=(Below.refl _ _).alloc (Nat.le_refl _) _
        have BD:=Lib.hid (show Blk (wv.alloc (.cells Tryz.zeroCells42 42)) wv.heap.size 42 Tryz.zeroCells42 from Blk.fresh _ _ _)
        have HDG:=Lib.hid (show wr.heap.size≤wv.heap.size from HBR.out.size)
        have HBR:=Lib.hid (onward HBR.out (Nat.le_refl _) hb)
        have HDL:=Lib.hid (show wv.heap.size<((wv.alloc (.cells Tryz.zeroCells42 42))).heap.size by simp)
        clear hb
        obtain⟨gd,hgd⟩:∃g,wv.heap.size=g:=⟨_,rfl⟩
        rw [hgd]at BD HDG HDL ⊢
        clear hgd
        generalize(wv.alloc (.cells Tryz.zeroCells42 42))=wv at*
        have HSS:Blk wv gc 42 RJ∧wv.rangeAt bi (oi+i*14) ((List.range 12).map fun j=>.int .i64 (rdv j)):=⟨BC.out.below HBR.out BC.out.lt,range_of fun a ha=>(HBR.out.cell (p:=⟨bi,oi+i*14+a,none⟩) HBI.out).trans (HIR.out a ha)⟩
        refine hK.out _ _ HSS ?_
        clear hK K
        try simp only [Rg.lp]
        refine Rg.stp_o 7 ?_
        refine Rg.stepF ?_ ?_
        · kernel_rfl
        intro K hK
        rw [if_pos (by rfl)]
        clear HSS
        rw [←HRJ.out]
        go_simp
        have HVW:=Lib.hid (HVO.out.below HBR.out)
        refine(frame_any cl ⟨rdv,-1,[]⟩ HSA.out (show(-1:Int)≤ -1∧(-1:Int)≤3 by omega) HRWF.out (show([]:List Lie).length≤400 by simp) VA VC none 0 wv (fun j hj=>⟨(HVW.out j hj).1,(HVW.out j hj).2.1,(HVW.out j hj).2.2.1⟩) (LiesAt.nil _ _ _)).mono ?_
        rintro e w4 ⟨VA2,VC2,RA,RC,rfl,hv2,hown,hb⟩
        clear HVW
        rw [show(goods (-1:Int) 4).length=4 from rfl]at hown ⊢
        have iN:(Tryz.prog.info? 42).map (·.size)=some (row 297 (cluCell (next cl ⟨rdv,-1,[]⟩).fr (next cl ⟨rdv,-1,[]⟩).F (verOf VA2 (next cl ⟨rdv,-1,[]⟩).V VC2))).size:=by rw [row_size];kernel_rfl
        have zN:(Tryz.zeroCells42).size=(row 297 (cluCell (next cl ⟨rdv,-1,[]⟩).fr (next cl ⟨rdv,-1,[]⟩).F (verOf VA2 (next cl ⟨rdv,-1,[]⟩).V VC2))).size:=by rw [row_size];kernel_rfl
        have oN:=row_one (cluCell_one HSN1.out.ok (next cl ⟨rdv,-1,[]⟩).fr (next cl ⟨rdv,-1,[]⟩).V VA2 VC2)
        obtain⟨RN,hRN⟩:∃R,(row 297 (cluCell (next cl ⟨rdv,-1,[]⟩).fr (next cl ⟨rdv,-1,[]⟩).F (verOf VA2 (next cl ⟨rdv,-1,[]⟩).V VC2)))=R:=⟨_,rfl⟩
        rw [hRN]at iN zN oN ⊢
        have HRN:=Lib.hid hRN
        clear hRN
        have BD:=Lib.hid (BD.out.below hb BD.out.lt)
        have HDN:=Lib.hid (show ∀j,j<4→0<((next cl ⟨rdv,-1,[]⟩).V j).length→∀a,VA2 j=some a→a.block≠gd from fun j hj hn a e=>by have:=(hv2 j hj).2.2.2 hn a e;have:=HDL.out;omega)
        have HDO:=Lib.hid (show(Value.slice RA 4 RC).ownBlock≠some gd from fun e=>by have:=(hown.lt _ e).1;have:=HDL.out;omega)
        have HV2:=Lib.hid (show ∀j,j<4→(VA2 j=none→VC2 j=0)∧((next cl ⟨rdv,-1,[]⟩).V j).length≤VC2 j∧Rd w4 w4.heap.size 1 (VA2 j) ((next cl ⟨rdv,-1,[]⟩).V j).length (boolsV ((next cl ⟨rdv,-1,[]⟩).V j))∧(0<((next cl ⟨rdv,-1,[]⟩).V j).length→∀a,VA2 j=some a→wr.heap.size≤a.block)from fun j hj=>⟨(hv2 j hj).1,(hv2 j hj).2.1,(hv2 j hj).2.2.1,fun hn a e=>Nat.le_trans HBR.out.size ((hv2 j hj).2.2.2 hn a e)⟩)
        have HOW:=Lib.hid (own_weaken hown (show wr.heap.size≤wv.heap.size from HBR.out.size))
        have HBR:=Lib.hid (onward HBR.out (Nat.le_refl _) hb)
        clear hv2 hown hb
        generalize wv=wq at*
        generalize w4=wv at*
        have HSS:Blk wv gc 42 RJ∧wv.rangeAt bi (oi+i*14) ((List.range 12).map fun j=>.int .i64 (rdv j)):=⟨BC.out.below HBR.out BC.out.lt,range_of fun a ha=>(HBR.out.cell (p:=⟨bi,oi+i*14+a,none⟩) HBI.out).trans (HIR.out a ha)⟩
        refine hK.out _ _ ?_
        clear hK K
        try simp only [Rg.lp]
        refine Rg.tp 8 ⟨some 69,.move (.tmp 77),_,_,_,none⟩ (v:=?_) rfl ?_ ?_
        rotate_left 1
        · (intro w;go_simp;(try with_reducible rfl))
        try simp only [Rg.lp]
        refine Rg.tp 9 ⟨some 78,.extract (.tmp 69) 0,_,_,_,none⟩ (v:=?_) rfl ?_ ?_
        rotate_left 1
        · (intro w;go_simp;(try with_reducible rfl))
        try simp only [Rg.lp]
        refine Rg.tp 10 ⟨some 79,.extract (.tmp 69) 1,_,_,_,none⟩ (v:=?_) rfl ?_ ?_
        rotate_left 1
        · (intro w;go_simp;(try with_reducible rfl))
        try simp only [Rg.lp]
        refine Rg.tp 11 ⟨some 80,.extract (.tmp 69) 2,_,_,_,none⟩ (v:=?_) rfl ?_ ?_
        rotate_left 1
        · (intro w;go_simp;(try with_reducible rfl))
        try simp only [Rg.lp]
        refine Rg.stp_o 13 ?_
        refine Rg.stepF ?_ ?_
        · kernel_rfl
        intro K hK
        rw [if_pos (by rfl)]
        clear HSS
        refine wp_store_row 42 _ _ rfl gd RN rfl rfl 42 _ BD.out iN zN oN ?_
        have hgr:=gr_setRowR wv gd RN
        have BD:=Lib.hid (BD.out.setRow RN)
        have HV2:=Lib.hid (fun j (hj:j<4)=>(⟨(HV2.out j hj).1,(HV2.out j hj).2.1,rd_kept (HV2.out j hj).2.2.1 hgr.size (fun hn a e=>setRow_other wv gd a.block RN (HDN.out j hj hn a e)),(HV2.out j hj).2.2.2⟩:(VA2 j=none→VC2 j=0)∧((next cl ⟨rdv,-1,[]⟩).V j).length≤VC2 j∧Rd (wv.setRow gd RN) (wv.setRow gd RN).heap.size 1 (VA2 j) ((next cl ⟨rdv,-1,[]⟩).V j).length (boolsV ((next cl ⟨rdv,-1,[]⟩).V j))∧(0<((next cl ⟨rdv,-1,[]⟩).V j).length→∀a,VA2 j=some a→wr.heap.size≤a.block)))
        have HOW:=Lib.hid (HOW.out.kept hgr (.inr HDO.out))
        have HBR:=Lib.hid (below_setRow HBR.out HDG.out RN)
        clear hgr
        generalize(wv.setRow gd RN)=wv at*
        have HSS:True:=trivial
        refine hK.out _ _ ?_
        clear hK K
        try simp only [Rg.lp]
        refine Rg.tp 14 ⟨some 11,.assign (.tmp 79),_,_,_,none⟩ (v:=?_) rfl ?_ ?_
        rotate_left 1
        · (intro w;go_simp;(try with_reducible rfl))
        try simp only [Rg.lp]
        refine Rg.tp 15 ⟨some 12,.assign (.tmp 80),_,_,_,none⟩ (v:=?_) rfl ?_ ?_
        rotate_left 1
        · (intro w;go_simp;(try with_reducible rfl))
        try simp only [Rg.lp]
        refine Rg.doneR (by kernel_rfl) ?_ _
        refine NoPanic.normal ?_
        go_wp2_with fail
        go_meet
        exact⟨gd,VA2,VC2,RA,RC,rfl,rfl,rfl,⟨by rw [HRN.out];exact BD.out,HV2.out,HOW.out,HBR.out,HDG.out⟩⟩
      case rest=>
       obtain⟨gd,VA2,VC2,RA,RC,rfl,rfl,rfl,hbe⟩:=hcut
       have HE:=Lib.hid hbe
       clear hbe
       have HLT:=Lib.hid (show ∀b,WT gc OA (4*i) OC b→b<wr.heap.size from fun b h=>by
        have h0:=BC.out.lt
        rcases h with h|h
        · omega
        · exact(HOO.out.lt b h).2)
       have HVN:=Lib.hid (show VerOk wc (next cl ⟨rdv,-1,[]⟩) VA2 VC2 (WT gc OA (4*i) OC)from fun j hj=>⟨(HE.out.v j hj).1,(HE.out.v j hj).2.1,(HE.out.v j hj).2.2.1,fun hn a e hx=>by have h1:=(HE.out.v j hj).2.2.2 hn a e;have h2:=HLT.out _ hx;omega⟩)
       have HRO:=Lib.hid (own_weaken HE.out.r (show gc≤wr.heap.size from Nat.le_of_lt BC.out.lt))
       have BC:=Lib.hid (BC.out.below HE.out.b BC.out.lt)
       have HOO:=Lib.hid (Nd.ownsRow_below HOO.out HE.out.b)
       have HBW:=Lib.hid (onward HBW.out HC3.out HE.out.b)
       have BD:=Lib.hid HE.out.d
       have iN:(Tryz.prog.info? 42).map (·.size)=some (row 297 (cluCell (next cl ⟨rdv,-1,[]⟩).fr (next cl ⟨rdv,-1,[]⟩).F (verOf VA2 (next cl ⟨rdv,-1,[]⟩).V VC2))).size:=by rw [row_size];kernel_rfl
       have zM:RJ.size=(row 297 (cluCell (next cl ⟨rdv,-1,[]⟩).fr (next cl ⟨rdv,-1,[]⟩).F (verOf VA2 (next cl ⟨rdv,-1,[]⟩).V VC2))).size:=by rw [←HRJ.out,row_size,row_size]
       have oN:=row_one (cluCell_one HSN1.out.ok (next cl ⟨rdv,-1,[]⟩).fr (next cl ⟨rdv,-1,[]⟩).V VA2 VC2)
       have H1O:=Lib.hid (reps4_one cl ⟨rdv,-1,[]⟩ HSN1.out)
       obtain⟨RN,hRN⟩:∃R,(row 297 (cluCell (next cl ⟨rdv,-1,[]⟩).fr (next cl ⟨rdv,-1,[]⟩).F (verOf VA2 (next cl ⟨rdv,-1,[]⟩).V VC2)))=R:=⟨_,rfl⟩
       rw [hRN]at iN zM oN BD
       have HRN:=Lib.hid hRN
       clear hRN HLT HE HIR HBI HBI2 HRWF HVO
       go_upto_region 17 with fail
       go_upto_region 18 with(first
        |(refine wpList_whole rfl 42 _ rfl gd rfl BD.out _ Tryz.underlying42 rfl iN ?_)
        |(refine wpList_store_row rfl 42 _ _ rfl gc RN rfl rfl 42 _ BC.out iN zM oN ?_))
       have hgr:=gr_setRowR wc gc RN
       have hX0:∀g,some gc=some g→WT gc OA (4*i) OC g:=fun g e=>.inl (by injection e with e;exact e.symm)
       have HOO:=Lib.hid (HOO.out.kept hgr (.inr (own_ne_blk HOO.out BC.out (by decide))))
       have HRO:=Lib.hid (HRO.out.kept hgr (.inr (own_ne_blk HRO.out BC.out (by decide))))
       have BC:=Lib.hid (BC.out.setRow RN)
       have HVN:=Lib.hid (HVN.out.grown hgr hX0)
       have HBW:=Lib.hid (below_setRow HBW.out (Nat.le_refl _) RN)
       clear hgr hX0 BD iN zM oN iJ
       generalize(wc.setRow gc RN)=w6 at*
       obtain⟨br,orr,hRA,hbr,hcr⟩:=(Rd.of_own HRO.out).2 (by omega)
       have HCF:=Lib.hid (show ∀j u,(reps cl ⟨rdv,-1,[]⟩ 4)[j]?=some u→ w6.cell? (Addr.add ⟨br,orr,none⟩ j)=some u from fun j u hu=>by rw [Addr.add_lit];exact hcr j u hu)
       have HRL:=Lib.hid (show(reps cl ⟨rdv,-1,[]⟩ 4).length=4*14 from HRO.out.1)
       have HGS:=Lib.hid (show gc≤w6.heap.size from Nat.le_of_lt BC.out.lt)
       clear hbr hcr
       subst hRA
       refine wp_region_list ?_
       refine wpList_wanted (by rfl) (fun K hK=>?_)
       go_simp
       refine hK _ _ ?_
       clear hK K
       try simp only [Rg.lp]
       refine wpList_wanted (by rfl) (fun K hK=>?_)
       go_simp
       refine hK _ _ ?_
       clear hK K
       try simp only [Rg.lp]
       refine wpList_append_at _ rfl (.tmp 84) (.tmp 85) 44 rfl (base:=gc) elemReps rfl HOO.out rfl (news:=(reps cl ⟨rdv,-1,[]⟩ 4)) HRL.out HCF.out H1O.out (by unfold maxLen;omega) (by omega) HGS.out ?_
       intro A5 C5 w7 hown5 hg5 hat5
       try simp only [Rg.lp]
       have hz1:=wz_wider (X:=WT gc OA (4*i) OC) hat5 (fun b e=>.inr e)
       have hx1:∀g,(Value.slice OA (4*i) OC).ownBlock=some g→WZ (WT gc OA (4*i) OC) (Value.slice A5 (4*i+4) C5).ownBlock g:=fun g e=>.inl (.inr e)
       have HVN:=Lib.hid (((HVN.out.wider hz1).grown hg5 hx1).wider (Y:=WT gc A5 (4*i+4) C5) (fun b _ h=>by
        rcases h with h|h
        · exact .inl (.inl h)
        · exact .inr h))
       have BC:=Lib.hid (BC.out.grown hg5 (fun e=>own_ne_blk HOO.out BC.out (by decide) e.symm))
       have HBW:=Lib.hid (HBW.out.grown hg5 (Nat.le_trans HC3.out HBW.out.size) (fun g e=>(HOO.out.lt g e).1))
       have HO5:=Lib.hid hown5
       clear hown5 hg5 hat5 hz1 hx1 HGS HCF HRL H1O HRO HOO
       refine wpList_wanted (by rfl) (fun K hK=>?_)
       go_simp
       refine hK _ _ ?_
       clear hK K
       try simp only [Rg.lp]
       go_wp2_with fail
       refine⟨⟨i+1,S2,VA2,VC2,A5,C5,by omega,rfl,HSN.out,rfl,by go_num,?_,?_,?_,HBW.out⟩,by simp [intOf];omega⟩
       · rw [HNX.out,HRN.out];exact BC.out
       · rw [HNX.out];exact HVN.out
       · rw [HAR.out];exact HO5.out
   ·
    obtain rfl:i=n:=by omega
    have hd1:decide ((i:Int)<(i:Int))=false:=decide_eq_false (by omega)
    have HB9:=Lib.hid (HB.out.trans (HBW.out.mono HGG.out))
    have hg7:7<gt:=by rw [←HGT.out];exact h5
    have HZR:=Lib.hid (show TzAt wr from(HB9.out.cell (p:=⟨7,15,none⟩) hg7).trans HZ.out)
    have HMR:=Lib.hid ((HB9.out.cell (p:=⟨0,0,none⟩) (show 0<gt by omega)).trans HM.out)
    have h5r:7<wr.heap.size:=Nat.lt_of_lt_of_le h5 HB9.out.size
    have HGW:=Lib.hid (show gt≤wr.heap.size from by rw [←HGT.out];exact HB9.out.size)
    have hyi:i≤ys.length:=by rw [HYL.out];exact Nat.le_refl _
    clear HB HBW HVO BC HM HZ HIN HC3 HGG hlt hnx c0 c1 c2 c3 HR HR0
    by_cases h20:SS.size≤20000
    ·
     have x20:decide ((20000:Int)<(SS.size:Int))=false:=decide_eq_false (by omega)
     have hl:(txtC (cmdN t0 t1 t2 t3 R i)).length≤20000:=by rw [←strB_size,←HSS1.out];exact h20
     obtain⟨G,hG⟩:∃G,G=strB (outN t0 t1 t2 t3 ys i):=⟨_,rfl⟩
     have HC:=Lib.hid (show Calls Tryz.prog 8 #[.string SS] wr fun e w'=>e=.returned (.tuple #[.string G,.int .i64 0])∧Below wr.heap.size wr w' from by rw [hG,HSS1.out];exact play_law HT.out HTL.out i hyi hl m wr HMR.out HZR.out h5r)
     have HG:=Lib.hid hG
     clear hG hl HSS1 HS2 HMR HZR h5r
     go_wp2_with fail
     refine HC.out.mono ?_
     rintro e w5 ⟨rfl,hb⟩
     have HB9:=Lib.hid (show Below gt w w5 from HB9.out.trans (hb.mono HGW.out))
     have HOO:=Lib.hid (Nd.ownsRow_below HOO.out hb)
     have HGW:=Lib.hid (Nat.le_trans HGW.out hb.size)
     clear hb HC
     go_wp2_with fail
     refine(alive_any _).mono ?_
     rintro e w6 ⟨rfl,hb⟩
     have HB9:=Lib.hid (show Below gt w w6 from HB9.out.trans (hb.mono HGW.out))
     have HOO:=Lib.hid (Nd.ownsRow_below HOO.out hb)
     have HGW:=Lib.hid (Nat.le_trans HGW.out hb.size)
     clear hb
     go_wp2_with fail
     go_loopw [15,108] (fun p v wr=>∃j:Nat,j≤4*i∧p=.int .i64 (((lnsK (lnM t0 t1 t2 t3 ys) j).length:Nat):Int)∧v=.int .i64 (j:Int)∧Below w6.heap.size w6 wr) (fun _ v _=>4*i-(intOf v).toNat)
     case atStart=>exact⟨0,by omega,rfl,rfl,Below.refl _ _⟩
     case round=>
      obtain⟨j,hj,rfl,rfl,hb⟩:=hrel
      have HB10:=Lib.hid hb
      clear hb
      by_cases hlj:j<4*i
      ·
       have hj0:(0:Int)≤(j:Int):=by omega
       have hj1:(j:Int)<((4*i:Nat):Int):=by omega
       have hwj:IntKind.i64.wrap ((j:Int)+1)=((j+1:Nat):Int):=by rw [IntKind.wrap_i64];omega
       obtain⟨nd,fr,u,p,d,st,iq,hnd,hfr,hu,hp,hR,hln⟩:=line_m HT.out HTL.out (m:=j) (by rw [HYL.out];exact hlj)
       obtain⟨X,hX⟩:=lnsK_pre (lnM t0 t1 t2 t3 ys) (j+1) (4*i-(j+1))
       rw [show j+1+(4*i-(j+1))=4*i by omega,show lnsK (lnM t0 t1 t2 t3 ys) (j+1)=lnsK (lnM t0 t1 t2 t3 ys) j++(lnM t0 t1 t2 t3 ys) j from rfl,hln]at hX
       have HGX:=Lib.hid (show G=strB ((lnsK (lnM t0 t1 t2 t3 ys) j++(headL nd fr u p++tailL (d%4294967296).toNat st iq++[10]))++X)from by rw [HG.out];unfold outN;rw [hX])
       have HQ1:=Lib.hid (show lnsK (lnM t0 t1 t2 t3 ys) (j+1)=lnsK (lnM t0 t1 t2 t3 ys) j++(headL nd fr u p++tailL (d%4294967296).toNat st iq++[10])from by rw [←hln];rfl)
       have HGL:=Lib.hid (show G.size≤1600*i from by rw [HG.out,strB_size];exact out_len HT.out HTL.out i hyi)
       have HLB:=Lib.hid (show ∀y∈(lnsK (lnM t0 t1 t2 t3 ys) j++(headL nd fr u p++tailL (d%4294967296).toNat st iq++[10]))++X,y<256 from by rw [←hX];exact out_byte HT.out HTL.out i hyi)
       clear hX hln
       obtain⟨br,orr,rfl,hbr,hcr⟩:=(Rd.of_own HOO.out).2 (by omega)
       have HRR:=Lib.hid (show wr.rangeAt br (orr+j*14) ((List.range 14).map (repF (G6 (runS t0 t1 t2 t3 ys (j/4)) (ys.getD (j/4) default) (j%4))))from range_of fun a ha=>by
        rw [Nat.add_assoc]
        exact(HB10.out.cell (p:=⟨br,orr+(j*14+a),none⟩) hbr).trans (hcr _ _ (allR_get HTL.out i hyi j hlj a ha)))
       have HWR2:=Lib.hid (show w6.heap.size≤wr.heap.size from HB10.out.size)
       clear hbr hcr
       have oN:(repA nd fr u p d st iq).all (·.oneCell')=true:=by simp [repA,Value.oneCell']
       have iN:(Tryz.prog.info? 56).map (·.size)=some (repA nd fr u p d st iq).size:=by kernel_rfl
       have zN:rep0.size=(repA nd fr u p d st iq).size:=by rfl
       obtain⟨RR,hRR⟩:∃R,repA nd fr u p d st iq=R:=⟨_,rfl⟩
       rw [hRR]at iN zN oN hR
       have HRX:=Lib.hid hRR
       have F1:Hid (Blk (wr.alloc (.cells rep0 56)) wr.heap.size 56 rep0):=Lib.hid (Blk.fresh _ _ _)
       have hbn:=below_setRow ((Below.refl wr.heap.size wr).alloc (Nat.le_refl _) (.cells rep0 56)) (Nat.le_refl _) RR
       unfold rep0 at F1 zN hbn
       clear hRR
       go_upto_region 28 with(first
        |(refine wpList_rng rfl 56 _ rfl br (orr+j*14) 14 rfl (repF (G6 (runS t0 t1 t2 t3 ys (j/4)) (ys.getD (j/4) default) (j%4))) HRR.out _ Tryz.underlying56 rfl (by kernel_rfl) ?_;rw [hR])
        |(refine wpList_store_row rfl 56 _ _ rfl wr.heap.size RR rfl rfl 56 _ F1.out iN zN oN ?_))
       have BR0:=Lib.hid (F1.out.setRow RR)
       have HB11:=Lib.hid (onward HB10.out (Nat.le_refl _) hbn)
       clear F1 hbn hR HRR zN oN iN
       generalize((wr.alloc _).setRow wr.heap.size RR)=wp at*
       obtain⟨lr,hlr⟩:∃g,wr.heap.size=g:=⟨_,rfl⟩
       rw [hlr]at BR0 ⊢
       clear hlr
       have HCC:=Lib.hid (show ∀W,Blk W lr 56 RR→(W.cell? ⟨lr,0,none⟩=some (.int .i64 (nd:Int))∧ W.cell? ⟨lr,1,none⟩=some (.int .i64 (fr:Int))∧ W.cell? ⟨lr,2,none⟩=some (.int .i64 (u 0))∧ W.cell? ⟨lr,3,none⟩=some (.int .i64 (u 1))∧ W.cell? ⟨lr,4,none⟩=some (.int .i64 (u 2))∧ W.cell? ⟨lr,5,none⟩=some (.int .i64 (p 0))∧ W.cell? ⟨lr,6,none⟩=some (.int .i64 (p 1))∧ W.cell? ⟨lr,7,none⟩=some (.int .i64 (p 2)))from fun W hW=>by
        rw [←HRX.out]at hW
        exact⟨hW.cell 0,hW.cell 1,hW.cell 2,hW.cell 3,hW.cell 4,hW.cell 5,hW.cell 6,hW.cell 7⟩)
       have HFL:=Lib.hid (head_flat nd fr hnd hfr u p)
       have HU:=Lib.hid hu
       have HP:=Lib.hid hp
       have q0:=HU.out 0 (by omega)
       have q1:=HU.out 1 (by omega)
       have q2:=HU.out 2 (by omega)
       have s0:=HP.out 0 (by omega)
       have s1:=HP.out 1 (by omega)
       have s2:=HP.out 2 (by omega)
       clear hu hp HU HP
       obtain⟨u0,hu0⟩:∃z,u 0=z:=⟨_,rfl⟩
       rw [hu0]at q0 HCC HFL
       obtain⟨Tu0,hTu0⟩:∃T,T=strB (textOf u0):=⟨_,rfl⟩
       have Iu0:=Lib.hid (show ∀v,Calls Tryz.prog 4 #[.int .i64 u0] v fun e w'=>e=.returned (.string Tu0)∧Below v.heap.size v w' from fun v=>by rw [hTu0];exact Tx.fixText_any u0 v q0)
       have lu0:Tu0.size≤44:=by rw [hTu0,strB_size];exact ReadLaw.text_len _ q0
       obtain⟨p0,hp0⟩:∃z,p 0=z:=⟨_,rfl⟩
       rw [hp0]at s0 HCC HFL
       obtain⟨Tp0,hTp0⟩:∃T,T=strB (textOf p0):=⟨_,rfl⟩
       have Ip0:=Lib.hid (show ∀v,Calls Tryz.prog 4 #[.int .i64 p0] v fun e w'=>e=.returned (.string Tp0)∧Below v.heap.size v w' from fun v=>by rw [hTp0];exact Tx.fixText_any p0 v s0)
       have lp0:Tp0.size≤44:=by rw [hTp0,strB_size];exact ReadLaw.text_len _ s0
       obtain⟨u1,hu1⟩:∃z,u 1=z:=⟨_,rfl⟩
       rw [hu1]at q1 HCC HFL
       obtain⟨Tu1,hTu1⟩:∃T,T=strB (textOf u1):=⟨_,rfl⟩
       have Iu1:=Lib.hid (show ∀v,Calls Tryz.prog 4 #[.int .i64 u1] v fun e w'=>e=.returned (.string Tu1)∧Below v.heap.size v w' from fun v=>by rw [hTu1];exact Tx.fixText_any u1 v q1)
       have lu1:Tu1.size≤44:=by rw [hTu1,strB_size];exact ReadLaw.text_len _ q1
       obtain⟨p1,hp1⟩:∃z,p 1=z:=⟨_,rfl⟩
       rw [hp1]at s1 HCC HFL
       obtain⟨Tp1,hTp1⟩:∃T,T=strB (textOf p1):=⟨_,rfl⟩
       have Ip1:=Lib.hid (show ∀v,Calls Tryz.prog 4 #[.int .i64 p1] v fun e w'=>e=.returned (.string Tp1)∧Below v.heap.size v w' from fun v=>by rw [hTp1];exact Tx.fixText_any p1 v s1)
       have lp1:Tp1.size≤44:=by rw [hTp1,strB_size];exact ReadLaw.text_len _ s1
       obtain⟨u2,hu2⟩:∃z,u 2=z:=⟨_,rfl⟩
       rw [hu2]at q2 HCC HFL
       obtain⟨Tu2,hTu2⟩:∃T,T=strB (textOf u2):=⟨_,rfl⟩
       have Iu2:=Lib.hid (show ∀v,Calls Tryz.prog 4 #[.int .i64 u2] v fun e w'=>e=.returned (.string Tu2)∧Below v.heap.size v w' from fun v=>by rw [hTu2];exact Tx.fixText_any u2 v q2)
       have lu2:Tu2.size≤44:=by rw [hTu2,strB_size];exact ReadLaw.text_len _ q2
       obtain⟨p2,hp2⟩:∃z,p 2=z:=⟨_,rfl⟩
       rw [hp2]at s2 HCC HFL
       obtain⟨Tp2,hTp2⟩:∃T,T=strB (textOf p2):=⟨_,rfl⟩
       have Ip2:=Lib.hid (show ∀v,Calls Tryz.prog 4 #[.int .i64 p2] v fun e w'=>e=.returned (.string Tp2)∧Below v.heap.size v w' from fun v=>by rw [hTp2];exact Tx.fixText_any p2 v s2)
       have lp2:Tp2.size≤44:=by rw [hTp2,strB_size];exact ReadLaw.text_len _ s2
       obtain⟨ST,hST⟩:∃T,T=strB (smallT fr):=⟨_,rfl⟩
       have ISM:=Lib.hid (show ∀v,Calls Tryz.prog 10 #[.int .i64 (fr:Int)] v fun e w'=>e=.returned (.string ST)∧Below v.heap.size v w' from fun v=>by rw [hST];exact(small_text fr hfr v).mono fun e w' ⟨h1,h2⟩=>⟨h1,by rw [h2];exact Below.refl _ _⟩)
       have lST:ST.size≤2:=by rw [hST,strB_size];exact smallT_len fr
       obtain⟨n1,n2⟩:=wrap48 nd hnd
       obtain⟨E,hE⟩:∃E,E=Utf8.encode ((48+nd:Nat):Int):=⟨_,rfl⟩
       have HE1:=Lib.hid hE
       have hE2:E=strB [48+nd]:=by rw [hE,enc_one _ (Nat.lt_of_lt_of_le (Nat.add_lt_add_left hnd 48) (by decide))]
       have lE:E.size=1:=by rw [hE2,strB_size];rfl
       have HX:∀W:World,(Go.convert 21 9 (.int .i32 ((48+nd:Nat):Int))).run Tryz.prog W=.ok (.string E) W:=fun W=>by rw [HE1.out];exact run_convert_int_string W _ _ _ _ (by kernel_rfl) Tryz.underlying9
       obtain⟨qn,hqn⟩:∃q:Int,((48+nd:Nat):Int)=q:=⟨_,rfl⟩
       rw [hqn]at n1 n2 HX
       clear hE hqn HE1
       obtain⟨g0,g1,g2,g3,g4,g5,g6,g7,g8,g9,g10,g11,g12,g13,g14,g15,hsz⟩:=gs16 E.size ST.size Tu0.size Tp0.size Tu1.size Tp1.size Tu2.size Tp2.size lE lST lu0 lp0 lu1 lp1 lu2 lp2
       have HSUM:=Lib.hid (show({ data:=#[110,111,100,101,32] }:ByteArray)++E++{ data:=#[32,102,114,97,109,101,32] }++ST++{ data:=#[32] }++Tu0++{ data:=#[62] }++Tp0++{ data:=#[32] }++Tu1++{ data:=#[62] }++Tp1++{ data:=#[32] }++Tu2++{ data:=#[62] }++Tp2++{ data:=#[32] }=strB (headL nd fr u p)from by
        rw [HFL.out]
        exact(cat _ _ _ _ (cat _ _ _ _ (cat _ _ _ _ (cat _ _ _ _ (cat _ _ _ _ (cat _ _ _ _ (cat _ _ _ _ (cat _ _ _ _ (cat _ _ _ _ (cat _ _ _ _ (cat _ _ _ _ (cat _ _ _ _ (cat _ _ _ _ (cat _ _ _ _ (cat _ _ _ _ (cat _ _ _ _ (strB_eq rfl:_=strB [110,111,100,101,32]) hE2) (strB_eq rfl:_=strB [32,102,114,97,109,101,32])) hST) (strB_eq rfl:_=strB [32])) hTu0) (strB_eq rfl:_=strB [62])) hTp0) (strB_eq rfl:_=strB [32])) hTu1) (strB_eq rfl:_=strB [62])) hTp1) (strB_eq rfl:_=strB [32])) hTu2) (strB_eq rfl:_=strB [62])) hTp2) (strB_eq rfl:_=strB [32])))
       have HZL:=Lib.hid (show(({ data:=#[110,111,100,101,32] }:ByteArray)++E++{ data:=#[32,102,114,97,109,101,32] }++ST++{ data:=#[32] }++Tu0++{ data:=#[62] }++Tp0++{ data:=#[32] }++Tu1++{ data:=#[62] }++Tp1++{ data:=#[32] }++Tu2++{ data:=#[62] }++Tp2++{ data:=#[32] }).size≤400 from by
        simp only [ByteArray.size_append,ByteArray.size_mk',List.size_toArray,List.length_cons,List.length_nil];exact hsz)
       have hcc:=HCC.out _ BR0.out
       clear lE lST HFL hE2 hST lu0 hTu0 q0 hu0 lp0 hTp0 s0 hp0 lu1 hTu1 q1 hu1 lp1 hTp1 s1 hp1 lu2 hTu2 q2 hu2 lp2 hTp2 s2 hp2
       obtain⟨H,hH⟩:∃H,(({ data:=#[110,111,100,101,32] }:ByteArray)++E++{ data:=#[32,102,114,97,109,101,32] }++ST++{ data:=#[32] }++Tu0++{ data:=#[62] }++Tp0++{ data:=#[32] }++Tu1++{ data:=#[62] }++Tp1++{ data:=#[32] }++Tu2++{ data:=#[62] }++Tp2++{ data:=#[32] })=H:=⟨_,rfl⟩
       rw [hH]at HSUM HZL
       have HHH:=Lib.hid hH
       clear hH hsz
       try simp only [Rg.lp]
       go_cut [18] (fun v wx=>v=.string H∧Below w6.heap.size w6 wx)
       case first=>
        go_region_held3 (fun w'=> w'.cell? ⟨lr,0,none⟩=some (.int .i64 (nd:Int))∧ w'.cell? ⟨lr,1,none⟩=some (.int .i64 (fr:Int))∧ w'.cell? ⟨lr,2,none⟩=some (.int .i64 u0)∧ w'.cell? ⟨lr,3,none⟩=some (.int .i64 u1)∧ w'.cell? ⟨lr,4,none⟩=some (.int .i64 u2)∧ w'.cell? ⟨lr,5,none⟩=some (.int .i64 p0)∧ w'.cell? ⟨lr,6,none⟩=some (.int .i64 p1)∧ w'.cell? ⟨lr,7,none⟩=some (.int .i64 p2)) (first|exact hcc) (first
          |(go_at_call_of 10 (Value.int .i64 (fr:Int));refine(ISM.out _).mono ?_;rintro e w2 ⟨rfl,hb2⟩;have hb3:=und hb2;have BR1:=Lib.hid (BR0.out.below hb3 BR0.out.lt);have hcc:=HCC.out _ BR1.out;have HB11:=Lib.hid (onward HB11.out (Nat.le_refl _) hb3);clear hb2 hb3)
          |(go_at_call_of 4 (Value.int .i64 u0);refine(Iu0.out _).mono ?_;rintro e w2 ⟨rfl,hb2⟩;have hb3:=hb2;have BR2:=Lib.hid (BR1.out.below hb3 BR1.out.lt);have hcc:=HCC.out _ BR2.out;have HB11:=Lib.hid (onward HB11.out (Nat.le_refl _) hb3);clear hb2 hb3)
          |(go_at_call_of 4 (Value.int .i64 p0);refine(Ip0.out _).mono ?_;rintro e w2 ⟨rfl,hb2⟩;have hb3:=hb2;have BR3:=Lib.hid (BR2.out.below hb3 BR2.out.lt);have hcc:=HCC.out _ BR3.out;have HB11:=Lib.hid (onward HB11.out (Nat.le_refl _) hb3);clear hb2 hb3)
          |(go_at_call_of 4 (Value.int .i64 u1);refine(Iu1.out _).mono ?_;rintro e w2 ⟨rfl,hb2⟩;have hb3:=hb2;have BR4:=Lib.hid (BR3.out.below hb3 BR3.out.lt);have hcc:=HCC.out _ BR4.out;have HB11:=Lib.hid (onward HB11.out (Nat.le_refl _) hb3);clear hb2 hb3)
          |(go_at_call_of 4 (Value.int .i64 p1);refine(Ip1.out _).mono ?_;rintro e w2 ⟨rfl,hb2⟩;have hb3:=hb2;have BR5:=Lib.hid (BR4.out.below hb3 BR4.out.lt);have hcc:=HCC.out _ BR5.out;have HB11:=Lib.hid (onward HB11.out (Nat.le_refl _) hb3);clear hb2 hb3)
          |(go_at_call_of 4 (Value.int .i64 u2);refine(Iu2.out _).mono ?_;rintro e w2 ⟨rfl,hb2⟩;have hb3:=hb2;have BR6:=Lib.hid (BR5.out.below hb3 BR5.out.lt);have hcc:=HCC.out _ BR6.out;have HB11:=Lib.hid (onward HB11.out (Nat.le_refl _) hb3);clear hb2 hb3)
          |(go_at_call_of 4 (Value.int .i64 p2);refine(Ip2.out _).mono ?_;rintro e w2 ⟨rfl,hb2⟩;have hb3:=hb2;have BR7:=Lib.hid (BR6.out.below hb3 BR6.out.lt);have hcc:=HCC.out _ BR7.out;have HB11:=Lib.hid (onward HB11.out (Nat.le_refl _) hb3);clear hb2 hb3))
        go_wp2_with fail
        go_meet
        exact⟨congrArg Value.string HHH.out,HB11.out⟩
       case rest=>
        obtain⟨rfl,hb⟩:=hcut
        have HB12:=Lib.hid hb
        clear hb hcc HCC ISM Iu0 Iu1 Iu2 Ip0 Ip1 Ip2 BR0 HB11 HX n1 n2 HHH g0 g1 g2 g3 g4 g5 g6 g7 g8 g9 g10 g11 g12 g13 g14 g15
        obtain⟨P,hP⟩:∃P,lnsK (lnM t0 t1 t2 t3 ys) j=P:=⟨_,rfl⟩
        obtain⟨hd,hhd⟩:∃l,headL nd fr u p=l:=⟨_,rfl⟩
        obtain⟨tl,htl⟩:∃l,tailL (d%4294967296).toNat st iq=l:=⟨_,rfl⟩
        have HHT:=Lib.hid (show ∀x∈hd,32≤x from fun x hx=>head_ten nd fr u p x (by rw [hhd];exact hx))
        have HTT:=Lib.hid (show ∀x∈tl,32≤x from fun x hx=>tail_ten _ st iq x (by rw [htl];exact hx))
        rw [hP,hhd,htl]at HGX HQ1 HLB
        rw [hhd]at HSUM
        rw [hP]
        have HP:=Lib.hid hP
        clear hP hhd htl HRX hnd hfr
        have hgs:=size_cut P hd tl X
        rw [←HGX.out]at hgs
        have hHs:H.size=hd.length:=by rw [HSUM.out,strB_size]
        have hex:G.extract P.length (P.length+hd.length)=H:=by rw [HGX.out,ext_cut,HSUM.out]
        obtain⟨q,hq⟩:∃q,P.length=q:=⟨_,rfl⟩
        rw [hq]at hgs hex ⊢
        have HQ:=Lib.hid hq
        rw [←hHs]at hex
        have hq9:q≤1600*79:=by have:=HGL.out;omega
        have hH9:H.size≤400:=HZL.out
        have w29:IntKind.i64.wrap ((q:Int)+(H.size:Int))=((q+H.size:Nat):Int):=by rw [IntKind.wrap_i64];omega
        have d29:decide ((G.size:Int)<((q+H.size:Nat):Int))=false:=decide_eq_false (by omega)
        have b29:q≤q+H.size:=Nat.le_add_right _ _
        have c29:q+H.size≤G.size:=by omega
        have HGS:=Lib.hid hgs
        have HHS:=Lib.hid hHs
        clear hq hgs hHs hq9 hH9 HZL
        go_wp2_with fail
        obtain⟨bl,hbl⟩:∃n,hd.length+tl.length=n:=⟨_,rfl⟩
        have HBLN:=Lib.hid hbl
        clear hbl hex w29 d29 b29 c29
        go_loopw [15] (fun v wr=>∃b:Nat,b≤bl∧v=.int .i64 ((q+b:Nat):Int)∧Below w6.heap.size w6 wr) (fun v _=>q+bl-(intOf v).toNat)
        case atStart=>exact⟨0,Nat.zero_le _,rfl,HB12.out⟩
        case round=>
         obtain⟨b,hb,rfl,hbw⟩:=hrel
         have HB13:=Lib.hid hbw
         clear hbw HB12
         have HGB:=Lib.hid (show G.size=q+(bl+1)+X.length∧q+bl≤1600*79 from⟨by have:=HGS.out;have:=HBLN.out;omega,by have:=HGS.out;have:=HBLN.out;have:=HGL.out;omega⟩)
         have i0:(0:Int)≤((q+b:Nat):Int):=Int.natCast_nonneg _
         have i1:((q+b:Nat):Int)<(G.size:Int):=Int.ofNat_lt.2 (by have:=HGB.out.1;omega)
         have w31:IntKind.i64.wrap (((q+b:Nat):Int)+1)=((q+(b+1):Nat):Int):=by rw [IntKind.wrap_i64];have:=HGB.out.2;omega
         have HYB:=Lib.hid (get_cut P hd tl X b (by rw [HBLN.out];exact hb))
         rw [HQ.out,HBLN.out]at HYB
         obtain⟨y,hy⟩:∃y,((P++(hd++tl++[10]))++X).getD (q+b) 0=y:=⟨_,rfl⟩
         have hix:∀W,(Instr.index 9 (.string G) (.int .i64 ((q+b:Nat):Int))).run Tryz.prog W=.ok (.int .u8 (y:Int)) W:=index_strB HGX.out HLB.out (by have h:=HGB.out.1;rw [HGX.out,strB_size]at h;omega) hy rfl
         rw [hy]at HYB
         clear hy
         by_cases hbb:b<bl
         ·
          have hyb:((y:Int)!=10)=true:=by
           have h:=HYB.out
           rw [if_pos hbb]at h
           have h2:=get_plain hd tl HHT.out HTT.out b (by rw [HBLN.out];exact hbb)
           exact bne_iff_ne.2 (by omega)
          obtain⟨qb,hqb⟩:∃z:Int,((q+b:Nat):Int)=z:=⟨_,rfl⟩
          have HQB:=Lib.hid hqb
          rw [hqb]at i0 i1 w31 hix ⊢
          clear hqb
          go_wp2_with fail
          exact⟨⟨b+1,hbb,congrArg (Value.int .i64) (by omega),HB13.out⟩,by have h:=HQB.out;simp only [intOf];omega⟩
         ·
          obtain rfl:b=bl:=by omega
          have hyb:((y:Int)!=10)=false:=by
           have h:=HYB.out
           rw [if_neg hbb]at h
           rw [h]
           rfl
          have HLN:=Lib.hid (show(lnsK (lnM t0 t1 t2 t3 ys) (j+1)).length=q+(b+1)from by
           rw [HQ1.out]
           have h1:=HQ.out
           have h2:=HBLN.out
           simp only [List.length_append,List.length_cons,List.length_nil]
           omega)
          obtain⟨qb,hqb⟩:∃z:Int,((q+b:Nat):Int)=z:=⟨_,rfl⟩
          rw [hqb]at i0 i1 w31 hix ⊢
          clear hqb
          go_wp2_with fail
          exact⟨⟨j+1,hlj,by rw [HLN.out];rfl,rfl,HB13.out⟩,by simp only [intOf];omega⟩
      ·
       obtain rfl:j=4*i:=by omega
       have hd35:decide (((4*i:Nat):Int)<((4*i:Nat):Int))=false:=decide_eq_false (by omega)
       have hgz:(lnsK (lnM t0 t1 t2 t3 ys) (4*i)).length=G.size:=by rw [HG.out,strB_size];rfl
       rw [hgz]
       clear hgz
       go_wp2_with fail
       go_ret
       exact⟨rfl,by rw [HGT.out];exact HB9.out.trans (HB10.out.mono HGW.out)⟩
    ·
     have x20:decide ((20000:Int)<(SS.size:Int))=true:=decide_eq_true (by omega)
     go_wp2_with fail
     refine(play_long SS (by omega) wr).mono ?_
     rintro e w5 ⟨rfl,rfl⟩
     go_wp2_with fail
     refine(alive_any _).mono ?_
     rintro e w6 ⟨rfl,hb⟩
     have HB9:=Lib.hid (show Below gt w w6 from HB9.out.trans (hb.mono HGW.out))
     clear hb
     go_wp2_with fail
     go_ret
     exact⟨rfl,by rw [HGT.out];exact HB9.out⟩
end Dr
end Go.Proofs.YtljpoibnkkcjdaaGreatDoor
