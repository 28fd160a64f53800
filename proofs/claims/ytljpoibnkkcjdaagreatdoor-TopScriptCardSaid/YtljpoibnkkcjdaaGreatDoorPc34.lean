import Derived.LaidMore
import Derived.Lay
import Derived.Test.YtljpoibnkkcjdaaGreatDoorCards
import Derived.Test.YtljpoibnkkcjdaaGreatDoorPc33
import Derived.Test.YtljpoibnkkcjdaaGreatDoorTie
set_option linter.unusedVariables false
set_option linter.unusedSimpArgs false
namespace Go.Proofs.YtljpoibnkkcjdaaGreatDoor
namespace Dr
open Go.RowKit Mem Rws Sm Nd Cl Cf ReadLaw Pl Tx TextLaw
theorem enc_one (n:Nat) (h:n<128):Utf8.encode (n:Int)=strB [n]:=by
 have hv:Utf8.valid (n:Int)=true:=by unfold Utf8.valid;simp;omega
 unfold Utf8.encode
 simp only [hv,if_true,Int.toNat_natCast,h]
 exact strB_one n
set_option maxRecDepth 100000 in
set_option maxHeartbeats 4000000 in
theorem small_text (n:Nat) (hn:n<100) (w:World):Calls Tryz.prog 10 #[.int .i64 (n:Int)] w fun e w'=>e=.returned (.string (strB (smallT n)))∧w'=w:=by
 by_cases h:n<10
 ·
  have hd:decide ((n:Int)<10)=true:=decide_eq_true (by omega)
  have h1:IntKind.i64.wrap (48+(n:Int))=((48+n:Nat):Int):=by rw [IntKind.wrap_i64];omega
  have h2:IntKind.i32.wrap ((48+n:Nat):Int)=((48+n:Nat):Int):=by rw [IntKind.wrap_i32];omega
  have he:smallT n=[48+n]:=if_pos h
  rw [he,←enc_one (48+n) (by omega)]
  obtain⟨q,hq⟩:∃q:Int,((48+n:Nat):Int)=q:=⟨_,rfl⟩
  rw [hq]at h1 h2 ⊢
  go_enter Tryz.func10,Tryz.ntmps10
  go_wp2_with fail
  go_ret
  exact⟨rfl,rfl⟩
 ·
  have hd:decide ((n:Int)<10)=false:=decide_eq_false (by omega)
  have d1:Int.tdiv (n:Int) 10=((n/10:Nat):Int):=by rw [Int.tdiv_eq_ediv_of_nonneg (by omega)];omega
  have d2:Int.tmod (n:Int) 10=((n%10:Nat):Int):=by rw [Int.tmod_eq_emod_of_nonneg (by omega)];omega
  have h0:IntKind.i64.wrap ((n/10:Nat):Int)=((n/10:Nat):Int):=by rw [IntKind.wrap_i64];omega
  have h1:IntKind.i64.wrap (48+((n/10:Nat):Int))=((48+n/10:Nat):Int):=by rw [IntKind.wrap_i64];omega
  have h2:IntKind.i32.wrap ((48+n/10:Nat):Int)=((48+n/10:Nat):Int):=by rw [IntKind.wrap_i32];omega
  have h3:IntKind.i64.wrap (48+((n%10:Nat):Int))=((48+n%10:Nat):Int):=by rw [IntKind.wrap_i64];omega
  have h4:IntKind.i32.wrap ((48+n%10:Nat):Int)=((48+n%10:Nat):Int):=by rw [IntKind.wrap_i32];omega
  have he:strB (smallT n)=Utf8.encode ((48+n/10:Nat):Int)++Utf8.encode ((48+n%10:Nat):Int):=by
   rw [enc_one _ (by omega),enc_one _ (by omega),strB_append,show smallT n=[48+n/10,48+n%10]from if_neg h]
   rfl
  have s1:(Utf8.encode ((48+n/10:Nat):Int)).size=1:=by rw [enc_one _ (by omega),strB_size];rfl
  have s2:(Utf8.encode ((48+n%10:Nat):Int)).size=1:=by rw [enc_one _ (by omega),strB_size];rfl
  rw [he]
  generalize((n/10:Nat):Int)=x at*
  generalize((n%10:Nat):Int)=y at*
  generalize((48+n/10:Nat):Int)=q1 at*
  generalize((48+n%10:Nat):Int)=q2 at*
  have hs:¬9223372036854775807<(Utf8.encode q1).size+(Utf8.encode q2).size:=by omega
  go_enter Tryz.func10,Tryz.ntmps10
  go_wp2_with fail
  go_ret
  exact⟨rfl,rfl⟩
set_option maxRecDepth 100000 in
set_option maxHeartbeats 4000000 in
theorem reading_any (k:Nat) (hk:k<4) (r:Nat→Int) (hr:∀i,i<3→Wf (r i)) (w:World):Calls Tryz.prog 6 #[.int .i64 (k:Int),.agg #[.int .i64 (r 0),.int .i64 (r 1),.int .i64 (r 2)]] w fun e w'=>e=.returned (.string (strB (lineC (.read k r)++[10])))∧Below w.heap.size w w':=by
 have HR:=Lib.hid (fun i hi=>wf_rng (hr i hi))
 obtain⟨r0,e0⟩:∃z,r 0=z:=⟨_,rfl⟩
 obtain⟨r1,e1⟩:∃z,r 1=z:=⟨_,rfl⟩
 obtain⟨r2,e2⟩:∃z,r 2=z:=⟨_,rfl⟩
 have q0:=HR.out 0 (by omega)
 have q1:=HR.out 1 (by omega)
 have q2:=HR.out 2 (by omega)
 rw [e0]at q0
 rw [e1]at q1
 rw [e2]at q2
 obtain⟨T0,hT0⟩:∃T,T=strB (textOf r0):=⟨_,rfl⟩
 obtain⟨T1,hT1⟩:∃T,T=strB (textOf r1):=⟨_,rfl⟩
 obtain⟨T2,hT2⟩:∃T,T=strB (textOf r2):=⟨_,rfl⟩
 have I0:=Lib.hid (show ∀v,Calls Tryz.prog 4 #[.int .i64 r0] v fun e w'=>e=.returned (.string T0)∧Below v.heap.size v w' from fun v=>by rw [hT0];exact Tx.fixText_any r0 v q0)
 have I1:=Lib.hid (show ∀v,Calls Tryz.prog 4 #[.int .i64 r1] v fun e w'=>e=.returned (.string T1)∧Below v.heap.size v w' from fun v=>by rw [hT1];exact Tx.fixText_any r1 v q1)
 have I2:=Lib.hid (show ∀v,Calls Tryz.prog 4 #[.int .i64 r2] v fun e w'=>e=.returned (.string T2)∧Below v.heap.size v w' from fun v=>by rw [hT2];exact Tx.fixText_any r2 v q2)
 have l0:T0.size≤44:=by rw [hT0,strB_size];exact ReadLaw.text_len _ q0
 have l1:T1.size≤44:=by rw [hT1,strB_size];exact ReadLaw.text_len _ q1
 have l2:T2.size≤44:=by rw [hT2,strB_size];exact ReadLaw.text_len _ q2
 have h1:IntKind.i64.wrap (48+(k:Int))=((48+k:Nat):Int):=by rw [IntKind.wrap_i64];omega
 have h2:IntKind.i32.wrap ((48+k:Nat):Int)=((48+k:Nat):Int):=by rw [IntKind.wrap_i32];omega
 have s1:(Utf8.encode ((48+k:Nat):Int)).size=1:=by rw [enc_one _ (by omega),strB_size];rfl
 obtain⟨E,hE⟩:∃E,E=Utf8.encode ((48+k:Nat):Int):=⟨_,rfl⟩
 have hF:strB (lineC (.read k r)++[10])=(((((((({ data:=#[114,101,97,100,32] }:ByteArray)++E)++{ data:=#[32] })++T0)++{ data:=#[32] })++T1)++{ data:=#[32] })++T2)++{ data:=#[10] }:=by
  rw [hE,enc_one (48+k) (by omega),hT0,hT1,hT2]
  have h:lineC (.read k r)++[10]=[114,101,97,100,32]++[48+k]++[32]++textOf r0++[32]++textOf r1++[32]++textOf r2++[10]:=by
   simp only [lineC,wordsOf,joinW,e0,e1,e2,List.append_assoc,List.cons_append,List.nil_append]
  rw [h]
  refine Eq.symm ?_
  exact cat _ _ _ _ (cat _ _ _ _ (cat _ _ _ _ (cat _ _ _ _ (cat _ _ _ _ (cat _ _ _ _ (cat _ _ _ _ (cat _ _ _ _ (strB_eq rfl:_=strB [114,101,97,100,32]) rfl) (strB_eq rfl:_=strB [32])) rfl) (strB_eq rfl:_=strB [32])) rfl) (strB_eq rfl:_=strB [32])) rfl) (strB_eq rfl:_=strB [10])
 rw [e0,e1,e2,hF]
 rw [←hE]at s1
 have HE:=Lib.hid hE
 have g1:¬9223372036854775807<5+E.size:=by omega
 have g2:¬9223372036854775807<5+E.size+1:=by omega
 have g3:¬9223372036854775807<5+E.size+1+T0.size:=by omega
 have g4:¬9223372036854775807<5+E.size+1+T0.size+1:=by omega
 have g5:¬9223372036854775807<5+E.size+1+T0.size+1+T1.size:=by omega
 have g6:¬9223372036854775807<5+E.size+1+T0.size+1+T1.size+1:=by omega
 have g7:¬9223372036854775807<5+E.size+1+T0.size+1+T1.size+1+T2.size:=by omega
 have g8:¬9223372036854775807<5+E.size+1+T0.size+1+T1.size+1+T2.size+1:=by omega
 have hX:∀W:World,(Go.convert 21 9 (.int .i32 ((48+k:Nat):Int))).run Tryz.prog W=.ok (.string E) W:=fun W=>by rw [HE.out];exact run_convert_int_string W _ _ _ _ (by kernel_rfl) Tryz.underlying9
 obtain⟨q,hq⟩:∃q:Int,((48+k:Nat):Int)=q:=⟨_,rfl⟩
 rw [hq]at h1 h2 hX
 have HB0:=Lib.hid (show Blk (w.alloc (.cells #[.int .i64 r0,.int .i64 r1,.int .i64 r2] 33)) w.heap.size 33 #[.int .i64 r0,.int .i64 r1,.int .i64 r2]from Blk.fresh _ _ _)
 have HB:=Lib.hid ((Below.refl w.heap.size w).alloc (Nat.le_refl _) (.cells #[.int .i64 r0,.int .i64 r1,.int .i64 r2] 33))
 clear s1 l0 l1 l2 hE hT0 hT1 hT2 hF HE HR q0 q1 q2 e0 e1 e2 hq
 go_enter Tryz.func6,Tryz.ntmps6
 go_upto_region 1 with fail
 generalize(w.alloc (.cells #[.int .i64 r0,.int .i64 r1,.int .i64 r2] 33))=w1 at*
 obtain⟨gt,hgt⟩:∃g,w.heap.size=g:=⟨_,rfl⟩
 have HGT:=Lib.hid hgt
 rw [hgt]at HB0 HB ⊢
 clear hgt
 have c0:=HB0.out.cell 0
 have c1:=HB0.out.cell 1
 have c2:=HB0.out.cell 2
 go_region_held3 (fun w'=> w'.cell? ⟨gt,0,none⟩=some (.int .i64 r0)∧ w'.cell? ⟨gt,1,none⟩=some (.int .i64 r1)∧ w'.cell? ⟨gt,2,none⟩=some (.int .i64 r2)) (first|exact⟨c0,c1,c2⟩) (first
  |(go_at_call_of 4 (Value.int .i64 r0);refine(I0.out _).mono ?_;rintro e w2 ⟨rfl,hb2⟩;have hb3:=und hb2;have HB1:=Lib.hid (HB0.out.below hb3 HB0.out.lt);have c0:=HB1.out.cell 0;have c1:=HB1.out.cell 1;have c2:=HB1.out.cell 2;have HB:=Lib.hid (onward HB.out (Nat.le_of_eq HGT.out.symm) hb3);clear hb2 hb3)
  |(go_at_call_of 4 (Value.int .i64 r1);refine(I1.out _).mono ?_;rintro e w2 ⟨rfl,hb2⟩;have HB2:=Lib.hid (HB1.out.below hb2 HB1.out.lt);have c0:=HB2.out.cell 0;have c1:=HB2.out.cell 1;have c2:=HB2.out.cell 2;have HB:=Lib.hid (onward HB.out (Nat.le_of_eq HGT.out.symm) hb2);clear hb2)
  |(go_at_call_of 4 (Value.int .i64 r2);refine(I2.out _).mono ?_;rintro e w2 ⟨rfl,hb2⟩;have HB3:=Lib.hid (HB2.out.below hb2 HB2.out.lt);have c0:=HB3.out.cell 0;have c1:=HB3.out.cell 1;have c2:=HB3.out.cell 2;have HB:=Lib.hid (onward HB.out (Nat.le_of_eq HGT.out.symm) hb2);clear hb2))
 go_wp2_with fail
 go_ret
 exact⟨rfl,by rw [HGT.out];exact HB.out⟩
end Dr
namespace Dr
open Go.ChangeShapes Go.WideShapes Go.ChangeAt Go.RowKit
set_option maxRecDepth 100000
theorem met_plain (W:World):laidMetH Tryz.prog Rows.topScriptRow.laid W=laidMet Tryz.prog Rows.topScriptRow.laid W:=MakeChecks.laidMetH_plain _ _ _ (by kernel_rfl)
theorem tz_of_laid {W:World} (h:laidMetH Tryz.prog Rows.topScriptRow.laid W): W.cell? ⟨7,15,none⟩=some (.int .u8 4):=by
 rw [met_plain]at h
 obtain⟨ps,⟨g0,t0,cs0,f0,p0,q0,hg0,ht0,hv0,hd0,⟨g,t,cs,fuel,p,q,hg,ht,hv,hd,_,_⟩,_⟩,_,_⟩:=h
 obtain rfl:=Option.some.inj ((show Tryz.prog.globalNamed "math/bits.deBruijn64tab" =some 7 by kernel_rfl).symm.trans hg)
 obtain rfl:=Option.some.inj ((show(Tryz.prog.globals[7]?).map (·.type)=some 219 by kernel_rfl).symm.trans ht)
 obtain⟨xs,m,_,ex,_,hl,hel⟩:=DataW.trod_array Tryz.underlying219 hd
 have c5:Tryz.prog.cellsOf 5=1:=by kernel_rfl
 have hE:=hel 15 (by omega)
 rw [c5,Nat.mul_one,List.getElem?_eq_getElem (by omega)]at hE
 obtain⟨z,e1,e2,_⟩:=DataW.trod_int Tryz.underlying5 hE
 have e3:=(DataW.agg.inj (Prod.mk.inj ex).1).symm
 have e4:=congrArg (fun l:List (DataW Unit)=>l[15]?) e3
 simp only at e4
 rw [List.getElem?_map,List.getElem?_eq_getElem (by omega:15<xs.length),e2]at e4
 have hz:z=4:=by simpa using e4
 rw [World.var?_cell hg hv 15]
 have h0:((cs.toList.drop 15).take 1)[0]?=some (.int .u8 z):=by rw [e1];rfl
 subst hz
 simpa using h0
theorem int_of_shape {P:Program} {w:World} {g:Nat} {t:TypeId} {zero:Array Value} (h:w.ShapedOpen P) (hg:g<P.globals.size)
  (h0:((begin P (fun _ _=>0) default).world.heap[g]?).bind Obj.row? =some (zero,t)) (hz:zero.size=1)
  (hb:P.buildable t=true) (hc:P.cellTypes P.depth t=some [t]) (hu:P.underlying t=some (.int .i64)):∃m,w.cell? ⟨g,0,none⟩=some (.int .i64 m):=by
 obtain⟨cs,hh,hs,hr⟩:=h.1 g zero t hg h0
 obtain⟨ts,hts,_,hall⟩:=hr hb
 rw [hc]at hts
 cases hts
 have h1:0<cs.size:=by omega
 obtain⟨u,hu',hok⟩:=hall 0 cs[0] (by simp [h1])
 have:u=t:=by simpa using hu'.symm
 subst this
 have hcell: w.cell? ⟨g,0,none⟩=some cs[0]:=by simp [World.cell?,hh,h1]
 rw [hcell]
 unfold Cell.ok at hok
 rw [hu]at hok
 cases hv:cs[0]<;>rw [hv]at hok<;>first|(simp at hok;done)|skip
 rename_i k n
 obtain⟨rfl,_⟩:k=IntKind.i64∧_:=hok
 exact⟨n,rfl⟩
theorem maxLen_int {w:World} (h:w.ShapedOpen Tryz.prog):∃m,w.cell? ⟨0,0,none⟩=some (.int .i64 m):=
 int_of_shape (P:=Tryz.prog) (g:=0) (t:=3) (zero:=#[.int .i64 0]) h (of_decide_eq_true (by kernel_rfl)) (by kernel_rfl) rfl (by kernel_rfl) (by kernel_rfl) Tryz.underlying3
theorem cell_lt {w:World} {a:Addr} {v:Value} (h: w.cell? a=some v):a.block<w.heap.size:=by
 unfold World.cell? at h
 split at h
 · rename_i hb;exact(Array.getElem?_eq_some_iff.1 hb).1
 · cases h
end Dr
namespace Facts
theorem mapsRowed_:mapsRowed Tryz.prog=true:=by kernel_rfl
theorem stops_:(Tryz.prog.stops==[])=true:=by kernel_rfl
theorem knobs_:(Tryz.prog.stopKnobs==[])=true:=by kernel_rfl
theorem keys_:(true==Tryz.prog.plainKeys)=true:=by kernel_rfl
theorem heard_:Tryz.prog.stopsHeard=true:=by kernel_rfl
theorem enter_:Tryz.prog.mayEnter=true:=by kernel_rfl
theorem lifts_:(false==Tryz.prog.liftsFinal)=true:=by kernel_rfl
theorem make_:(Tryz.prog.make==some .cut)=true:=by kernel_rfl
end Facts
namespace Dr
open Go.ChangeShapes Go.WideShapes Go.ChangeAt Go.RowKit Mem Rws Nd Cl Cf
def WalkSaid:Prop:=∀(t0 t1 t2 t3:Int) (ht:Wf t0∧Wf t1∧Wf t2∧Wf t3) (A:Option Addr) (c:Nat) (xs:List InS) (hxl:xs.length≤1099511627776) (hxc:xs.length≤c) (hxw:∀x∈xs,∀i,i<12→Wf (x.rd i)) (m:Int) (w:World) (h:InsAt w w.heap.size A xs)
  (hm: w.cell? ⟨0,0,none⟩=some (.int .i64 m)) (hz: w.cell? ⟨7,15,none⟩=some (.int .u8 4)) (h5:7<w.heap.size),
  Calls Tryz.prog 3 #[.agg #[.int .i64 t0,.int .i64 t1,.int .i64 t2,.int .i64 t3],.slice A xs.length c] w fun e w'=>e=.returned (.bool true)∧Below w.heap.size w w'
set_option maxRecDepth 100000
set_option maxHeartbeats 1000000 in
theorem witness (os:Os) (H:Type) (enc:TypeId×Value→H):∃(w:World) (tape:Tape) (i:Input),w.os=os∧(w.forCall tape i).Shaped Tryz.checked.prog∧i.vars=[]∧Input.okWide Tryz.checked.prog (w.forCall tape i) .any w.heap.size 3 i∧
   ((Rows.topScriptSpec.pre enc Tryz.prog Tryz.f3 Rows.topScriptRow.domain false (w.forCall tape i).memory i.args∧laidMetH Tryz.prog Rows.topScriptRow.laid (w.forCall tape i).memory)∧sizedMet enc Tryz.prog Tryz.f3 (OpenSpec.ofChange Rows.topScriptSpec) false (w.forCall tape i).memory i.args)∧({ modest:=false }:Assume).holds Tryz.checked.prog (lone (Frame.enter Tryz.checked.prog 3 i.args .normal) [] (w.forCall tape i)):=
 ChangeSpec.witness_shaped (enc:=enc) (C:=Tryz.checked) (os:=os) (X:=fun w _=>laidMetH Tryz.prog Rows.topScriptRow.laid w) false (World.laidAll Tryz.prog os Rows.topScriptRow.laid) #[.agg #[.int .i64 0,.int .i64 0,.int .i64 0,.int .i64 0],.slice none 0 0] 8 (World.laidAll_os _ _ _)
  (World.shaped_of_ZipB (by kernel_rfl) (by kernel_rfl)) (by kernel_rfl) (by kernel_rfl) (by kernel_rfl)
  (by rw [met_plain];exact laidMet_laidAll _ (by kernel_rfl) (by kernel_rfl))
set_option maxHeartbeats 1000000 in
theorem lifted (walk:WalkSaid) (os:Os) (started:os.Started) (H:Type) (enc:TypeId×Value→H):
  ReturnsInHanded {} Tryz.checked os 3 .any (fun w args=>(Rows.topScriptSpec.pre enc Tryz.prog Tryz.f3 Rows.topScriptRow.domain false w args∧laidMetH Tryz.prog Rows.topScriptRow.laid w)∧sizedMet enc Tryz.prog Tryz.f3 (OpenSpec.ofChange Rows.topScriptSpec) false w args)
   (Rows.topScriptSpec.post enc Tryz.prog Tryz.f3 false true false false):=by
 refine returnsInHanded_of_calls (C:=Tryz.checked) Fr.own started (by kernel_rfl) (witness os H enc) ?_
 intro w tape i _ hshape _ hok hpre _
 obtain⟨_,_,_,fn',hfn',_,_,_,_,hval0⟩:=hok
 obtain rfl:fn'=Tryz.f3:=Option.some.inj (hfn'.symm.trans Tryz.func3)
 obtain⟨⟨⟨ds,gs,before,hw,hc⟩,hx⟩,hzz⟩:=hpre
 have hW:=DataW.Whole.of_heap (w':=w.forCall tape i) (by rfl) hw
 have hsz0:=hzz.weights hw
 obtain⟨m,hm⟩:=maxLen_int hshape
 have hz:=tz_of_laid (W:=w.forCall tape i) (laidMetH.of_heap (w:=(w.forCall tape i).memory) (by rfl) hx)
 have h5:=cell_lt hz
 clear hw hx hzz hshape hfn' hc
 generalize w.forCall tape i=W at*
 obtain⟨vars,args,xs0⟩:=i
 dsimp only at*
 suffices h:Calls Tryz.prog 3 args W fun e W'=>∃v,e=.returned v∧Rows.topScriptSpec.post enc Tryz.prog Tryz.f3 false true false false W args v W' by
  refine h.mono fun e W' ⟨v,he,hp⟩=>?_
  subst he
  exact ChangeSpec.post_blind hp
 have hval:∀(j:Nat) t v,Tryz.f3.params[j]?=some t→args[j]?=some v→Value.okWide Tryz.prog W .any w.heap.size t v:=hval0
 have hsz:(DataW.weightsEach Tryz.prog (Tryz.f3.params.toList++Rows.topScriptSpec.plain.varTypes Tryz.prog) (ds++gs)).all (· ≤reachBytes)=true:=hsz0
 clear hval0 hsz0
 obtain⟨p,q,hA0,hV0,_⟩:=id hW
 have hA:DataW.TrodAll enc Tryz.prog W 0 (fun _=>true) true Tryz.f3.params.toList args.toList ds p:=hA0
 rw [Tryz.params3]at hA hval hsz
 obtain⟨v0,vs0,d0,ds0,p0,q0,hargs,rfl,rfl,h0,r0⟩:=trodAll_cons hA
 obtain⟨v1,vs1,d1,ds1,p1,q1,rfl,rfl,rfl,h1,r1⟩:=trodAll_cons r0
 obtain⟨rfl,rfl,rfl⟩:=trodAll_nil r1
 obtain rfl:args=#[v0,v1]:=by cases args;simp_all
 obtain⟨rfl,rfl⟩:=trodVars_none hV0
 refine Fr.of_walk (f:=Tryz.f3) Fr.laidOut (by rw [Tryz.params3];intro t ht;simp at ht;(rcases ht with rfl|rfl)<;>exact⟨by kernel_rfl,of_decide_eq_true (by kernel_rfl)⟩) rfl rfl Tryz.underlying4 (fun _=>rfl) hW ?_
 clear hW hA hA0 hV0
 obtain⟨cs0,rfl⟩:=Op.okWide_agg (t:=23) (by kernel_rfl) (hval 0 23 v0 rfl rfl)
 have k0:=Op.flat_arg (ls:=[3,3,3,3]) (by kernel_rfl) h0 (Op.light_of_each (j:=0) hsz rfl rfl)
 obtain⟨y0_0,l0,e0,f0_0,k0⟩:=k0.cons
 obtain⟨y0_1,l0,rfl,f0_1,k0⟩:=k0.cons
 obtain⟨y0_2,l0,rfl,f0_2,k0⟩:=k0.cons
 obtain⟨y0_3,l0,rfl,f0_3,k0⟩:=k0.cons
 obtain rfl:=k0.nil_
 obtain rfl:=Op.arr_of e0
 obtain⟨t0,rfl,wf_t0⟩:=f0_0.int Tryz.underlying3
 obtain⟨t1,rfl,wf_t1⟩:=f0_1.int Tryz.underlying3
 obtain⟨t2,rfl,wf_t2⟩:=f0_2.int Tryz.underlying3
 obtain⟨t3,rfl,wf_t3⟩:=f0_3.int Tryz.underlying3
 obtain⟨AI,ci,xs,rfl,hxc,hxb,_,hxs,hxw⟩:=Cf.openInputs (hval 1 24 v1 rfl rfl) h1 (Op.light_of_each (j:=1) hsz rfl rfl)
 exact walk t0 t1 t2 t3 ⟨wf_t0,wf_t1,wf_t2,wf_t3⟩ AI ci xs (by omega) hxc (fun x hx=>(hxw x hx).1.1) m W hxs hm hz h5
set_option maxHeartbeats 2000000 in
theorem closedFacts:joinedFacts Tryz.prog 3 Tryz.f3 Rows.topScriptSpec Rows.topScriptRow=true:=by
 unfold joinedFacts
 simp only [Bool.and_eq_true]
 refine⟨⟨⟨⟨⟨⟨⟨⟨⟨⟨⟨⟨⟨⟨⟨⟨⟨⟨⟨⟨⟨⟨⟨⟨⟨⟨⟨⟨⟨⟨⟨?_,?_⟩,?_⟩,?_⟩,?_⟩,?_⟩,?_⟩,?_⟩,?_⟩,?_⟩,?_⟩,?_⟩,?_⟩,?_⟩,?_⟩,?_⟩,?_⟩,?_⟩,?_⟩,?_⟩,?_⟩,?_⟩,?_⟩,?_⟩,?_⟩,?_⟩,?_⟩,?_⟩,?_⟩,?_⟩,?_⟩,?_⟩
 · as_aux_lemma=>kernel_rfl
 · exact Fr.laidOut
 · exact Facts.mapsRowed_
 · as_aux_lemma=>kernel_rfl
 · as_aux_lemma=>kernel_rfl
 · as_aux_lemma=>kernel_rfl
 · exact Facts.stops_
 · as_aux_lemma=>kernel_rfl
 · exact Facts.knobs_
 · as_aux_lemma=>kernel_rfl
 · as_aux_lemma=>kernel_rfl
 · as_aux_lemma=>kernel_rfl
 · as_aux_lemma=>kernel_rfl
 · as_aux_lemma=>kernel_rfl
 · as_aux_lemma=>kernel_rfl
 · as_aux_lemma=>kernel_rfl
 · as_aux_lemma=>kernel_rfl
 · as_aux_lemma=>kernel_rfl
 · as_aux_lemma=>kernel_rfl
 · as_aux_lemma=>kernel_rfl
 · as_aux_lemma=>kernel_rfl
 · as_aux_lemma=>kernel_rfl
 · exact Facts.keys_
 · as_aux_lemma=>kernel_rfl
 · exact Facts.heard_
 · exact Facts.enter_
 · exact Facts.lifts_
 · exact Facts.make_
 · as_aux_lemma=>kernel_rfl
 · as_aux_lemma=>kernel_rfl
 · as_aux_lemma=>kernel_rfl
 · as_aux_lemma=>kernel_rfl
theorem row_of (walk:WalkSaid):Rows.TopScriptSaid:=
 OpenClaim.holds_of_wide 3 Tryz.f3 rfl rfl rfl rfl rfl rfl rfl ⟨rfl,rfl,rfl,rfl,rfl⟩ rfl rfl rfl rfl rfl (by kernel_rfl) Tryz.func3 closedFacts
  (of_decide_eq_true (by kernel_rfl)) (by unfold Func.isWrapper;first|(rw [if_pos (by decide+kernel)];kernel_rfl)|(rw [if_neg (by decide+kernel)];exact⟨rfl,rfl⟩))
  (fun os started H enc _=>lifted walk os started H enc)
theorem card_of (walk:WalkSaid):Rows.TopScriptCardSaid:=
 Claim7.holds_tied_plain_at .later [] [.data,.data,.data,.data,.pinned] true (true, "9ff8c3beda1925ec3b6f5d4f31d842584e36f3cdff5bf86fd93e758bd6495f30") false (row_of walk) (fun _ h=>by cases h) (by kernel_rfl) (fun _ h=>by cases h) topScript_row_tie rfl ⟨rfl,rfl⟩ (by kernel_rfl) rfl
  (fun f fn hf hfn=>by
   obtain rfl:f=3:=Option.some.inj ((show Tryz.prog.funcNamed "fourwatch/fourwatchtop.TopScript" =some 3 by kernel_rfl).symm.trans hf)|>.symm
   obtain rfl:fn=Tryz.f3:=(Option.some.inj (Tryz.func3.symm.trans hfn)).symm
   exact⟨by kernel_rfl,fun j t ht=>by
    rw [Tryz.params3]at ht
    have hm:t∈[23,24]:=by simpa using Array.mem_of_getElem? ht
    have hall:([23,24].all fun u=> !Tryz.prog.wantsStandIn u)=true:=by kernel_rfl
    exact(show Tryz.prog.wantsStandIn t=false by simpa using List.all_eq_true.1 hall t hm)⟩)
  (by kernel_rfl)
end Dr
end Go.Proofs.YtljpoibnkkcjdaaGreatDoor
