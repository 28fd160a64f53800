import Derived.Test.YtljpoibnkkcjdaaGreatDoorPc30
set_option linter.unusedVariables false
set_option linter.unusedSimpArgs false
namespace Go.Proofs.YtljpoibnkkcjdaaGreatDoor
namespace Dr
open Go.RowKit Mem Rws Sm Tx TextLaw
def decC (n:Nat):List Nat:=(dec n).map (· +48)
theorem decDigits_eq (n:Nat):Lib.decDigits n=(decC n).map fun x=>UInt8.ofNat x:=by
 unfold decC
 induction n using Nat.strongRecOn with
 |_ n ih=>
  rw [Lib.decDigits]
  by_cases h:n<10
  · rw [dif_pos h,dec_lo h];simp [Nat.add_comm]
  · rw [dif_neg h,dec_hi h,ih _ (by omega)];simp [Nat.add_comm]
theorem decC_len (n:Nat) (h:n<100):(decC n).length≤2:=by
 unfold decC;rw [List.length_map]
 by_cases h1:n<10
 · rw [dec_lo h1];simp
 · rw [dec_hi h1,dec_lo (by omega)];simp
theorem itoa_any (n:Nat) (hn:n<100) (w:World):Calls Tryz.prog 24 #[.int .i64 (n:Int)] w fun e w'=>e=.returned (.string (strB (decC n)))∧w'=w:=
 (Ls.strconv_Itoa_small n hn w).mono fun e w' ⟨h1,h2⟩=>⟨by rw [h1];exact congrArg (fun s=>Ending.returned (.string s)) (strB_eq (by simp [decDigits_eq])),h2⟩
def axT (u p:Int):List Nat:=[32]++textOf u++[62]++textOf p
def axs (u p:Nat→Int):Nat→List Nat
 |0=>[]
 |k+1=>axs u p k++axT (u k) (p k)
def outs (i:Nat→Bool):Nat→List Nat
 |0=>[]
 |k+1=>outs i k++(if i k then []else [32,111,117,116]++decC k)
def headT (nd fr:Nat):List Nat:=[110,111,100,101,32]++decC nd++[32,102,114,97,109,101,32]++decC fr
def bodyL (nd fr:Nat) (u p:Nat→Int) (dg:Nat) (st:Bool):List Nat:=headT nd fr++axs u p 3++([32]++hexOf dg)++(if st then []else [32,119,101,97,107])
def lineOf (nd fr:Nat) (u p:Nat→Int) (dg:Nat) (st:Bool) (i:Nat→Bool):List Nat:=bodyL nd fr u p dg st++outs i 4++[10]
def repA (nd fr:Nat) (u p:Nat→Int) (d:Int) (st:Bool) (i:Nat→Bool):Array Value:=
 #[.int .i64 (nd:Int),.int .i64 (fr:Int),.int .i64 (u 0),.int .i64 (u 1),.int .i64 (u 2),.int .i64 (p 0),.int .i64 (p 1),.int .i64 (p 2),.int .i64 d,.bool st,.bool (i 0),.bool (i 1),.bool (i 2),.bool (i 3)]
theorem und {B:Nat} {w w':World} (h:Below B w.drew w'):Below B w w':=⟨h.os,h.tape,h.output,h.size,h.block⟩
theorem in_ix (i:Nat→Bool) (k:Nat) (hk:k<4) (W:World):(Instr.index 29 (.agg #[.bool (i 0),.bool (i 1),.bool (i 2),.bool (i 3)]) (.int .i64 (k:Int))).run Tryz.prog W=.ok (.bool (i k)) W:=by
 rcases(show k=0∨k=1∨k=2∨k=3 by omega)with rfl|rfl|rfl|rfl<;>kernel_rfl
theorem rep_u (nd fr:Nat) (u p:Nat→Int) (d:Int) (st:Bool) (i:Nat→Bool) (k:Nat) (hk:k<3):(repA nd fr u p d st i)[2+k]?=some (.int .i64 (u k)):=by
 match k,hk with
 |0,_=>rfl
 |1,_=>rfl
 |2,_=>rfl
theorem rep_p (nd fr:Nat) (u p:Nat→Int) (d:Int) (st:Bool) (i:Nat→Bool) (k:Nat) (hk:k<3):(repA nd fr u p d st i)[5+k]?=some (.int .i64 (p k)):=by
 match k,hk with
 |0,_=>rfl
 |1,_=>rfl
 |2,_=>rfl
theorem cat (a b:ByteArray) (x y:List Nat) (ha:a=strB x) (hb:b=strB y):a++b=strB (x++y):=by rw [ha,hb,strB_append]
set_option maxRecDepth 100000 in
set_option maxHeartbeats 4000000 in
theorem line_any (nd fr:Nat) (hnd:nd<100) (hfr:fr<100) (u p:Nat→Int) (hu:∀k,k<3→ -9223372036854775808≤u k∧u k≤9223372036854775807) (hp:∀k,k<3→ -9223372036854775808≤p k∧p k≤9223372036854775807) (d:Int) (st:Bool) (i:Nat→Bool) (w:World) (h:TzAt w) (h5:7<w.heap.size):
  Calls Tryz.prog 68 #[.agg (repA nd fr u p d st i)] w fun e w'=>e=.returned (.string (strB (lineOf nd fr u p (d%4294967296).toNat st i)))∧Below w.heap.size w w':=by
 have HU:=Lib.hid hu
 have HP:=Lib.hid hp
 have HZ:=Lib.hid h
 have HB0:=Lib.hid (show Blk (w.alloc (.cells (repA nd fr u p d st i) 56)) w.heap.size 56 (repA nd fr u p d st i)from Blk.fresh _ _ _)
 have HB:=Lib.hid ((Below.refl w.heap.size w).alloc (Nat.le_refl _) (.cells (repA nd fr u p d st i) 56))
 clear h hu hp
 go_enter Tryz.func68,Tryz.ntmps68
 go_upto_region 1 with fail
 generalize(w.alloc (.cells (repA nd fr u p d st i) 56))=w1 at*
 have c0:=HB0.out.cell 0
 have c1:=HB0.out.cell 1
 rw [show(repA nd fr u p d st i)[0]?=some (.int .i64 (nd:Int))from rfl]at c0
 rw [show(repA nd fr u p d st i)[1]?=some (.int .i64 (fr:Int))from rfl]at c1
 obtain⟨S1,hS1⟩:∃S,S=strB (decC nd):=⟨_,rfl⟩
 obtain⟨S2,hS2⟩:∃S,S=strB (decC fr):=⟨_,rfl⟩
 have l1:S1.size≤2:=by rw [hS1,strB_size];exact decC_len nd hnd
 have l2:S2.size≤2:=by rw [hS2,strB_size];exact decC_len fr hfr
 have I1:=Lib.hid (show ∀v,Calls Tryz.prog 24 #[.int .i64 (nd:Int)] v fun e w'=>e=.returned (.string S1)∧w'=v from fun v=>by rw [hS1];exact itoa_any nd hnd v)
 have I2:=Lib.hid (show ∀v,Calls Tryz.prog 24 #[.int .i64 (fr:Int)] v fun e w'=>e=.returned (.string S2)∧w'=v from fun v=>by rw [hS2];exact itoa_any fr hfr v)
 have g1:¬9223372036854775807<5+S1.size:=by omega
 have g2:¬9223372036854775807<5+S1.size+7:=by omega
 have g3:¬9223372036854775807<5+S1.size+7+S2.size:=by omega
 have HS1:=Lib.hid hS1
 have HS2:=Lib.hid hS2
 clear hS1 hS2
 go_quiet ((go_at_call 24;first|exact Calls.quiet_of_same (I1.out _)|exact Calls.quiet_of_same (I2.out _)))
 have HS0:=Lib.hid (show({ data:=#[110,111,100,101,32] }:ByteArray)++S1++{ data:=#[32,102,114,97,109,101,32] }++S2=strB (headT nd fr++axs u p 0)from by
  rw [HS1.out,HS2.out]
  simp only [axs,List.append_nil]
  exact cat _ _ _ _ (cat _ _ _ _ (cat _ _ _ _ (strB_eq rfl) rfl) (strB_eq rfl)) rfl)
 have HS3:=Lib.hid (show(({ data:=#[110,111,100,101,32] }:ByteArray)++S1++{ data:=#[32,102,114,97,109,101,32] }++S2).size≤16+90*0 from by
  simp only [ByteArray.size_append,ByteArray.size_mk',List.size_toArray,List.length_cons,List.length_nil];omega)
 generalize(({ data:=#[110,111,100,101,32] }:ByteArray)++S1++{ data:=#[32,102,114,97,109,101,32] }++S2)=S at*
 have HB2:=Lib.hid (below_drewN HB.out nq)
 have HB3:=Lib.hid (show Blk (w1.drewN nq) w.heap.size 56 (repA nd fr u p d st i)from HB0.out.drewN nq)
 clear HB HB0 HS1 HS2 I1 I2 g1 g2 g3 c0 c1 l1 l2
 go_wp2_with fail
 go_loopw [3,16] (fun s a wr=>∃(k:Nat) (S:ByteArray),k≤3∧a=.int .i64 (k:Int)∧s=.string S∧S=strB (headT nd fr++axs u p k)∧S.size≤16+90*k∧Blk wr w.heap.size 56 (repA nd fr u p d st i)∧Below w.heap.size w wr) (fun _ a _=>3-(intOf a).toNat)
 case atStart=>exact⟨0,S,by omega,rfl,rfl,HS0.out,HS3.out,HB3.out,HB2.out⟩
 case round=>
  obtain⟨k,S,hk,rfl,rfl,hS,hl,hb,hB⟩:=hrel
  have HS:=Lib.hid hS
  have HR:=Lib.hid hb
  have HB:=Lib.hid hB
  clear hS hB hb HS0 HS3 HB2 HB3
  by_cases hk3:k<3
  ·
   have hkb:decide ((k:Int)<3)=true:=decide_eq_true (by omega)
   obtain⟨T1,hT1⟩:∃T,T=strB (textOf (u k)):=⟨_,rfl⟩
   obtain⟨T2,hT2⟩:∃T,T=strB (textOf (p k)):=⟨_,rfl⟩
   have I1:=Lib.hid (show ∀v,Calls Tryz.prog 4 #[.int .i64 (u k)] v fun e w'=>e=.returned (.string T1)∧Below v.heap.size v w' from fun v=>by rw [hT1];exact Tx.fixText_any (u k) v (HU.out k hk3))
   have I2:=Lib.hid (show ∀v,Calls Tryz.prog 4 #[.int .i64 (p k)] v fun e w'=>e=.returned (.string T2)∧Below v.heap.size v w' from fun v=>by rw [hT2];exact Tx.fixText_any (p k) v (HP.out k hk3))
   have l3:T1.size≤44:=by rw [hT1,strB_size];exact ReadLaw.text_len _ (HU.out k hk3)
   have l4:T2.size≤44:=by rw [hT2,strB_size];exact ReadLaw.text_len _ (HP.out k hk3)
   have g1:¬9223372036854775807<1+T1.size:=by omega
   have g2:¬9223372036854775807<1+T1.size+1:=by omega
   have g3:¬9223372036854775807<1+T1.size+1+T2.size:=by omega
   have g4:¬9223372036854775807<S.size+(1+T1.size+1+T2.size):=by omega
   have HN:=Lib.hid (show S++(({ data:=#[32] }:ByteArray)++T1++{ data:=#[62] }++T2)=strB (headT nd fr++axs u p (k+1))from by
    rw [show headT nd fr++axs u p (k+1)=(headT nd fr++axs u p k)++axT (u k) (p k)by rw [List.append_assoc];rfl]
    exact cat _ _ _ _ HS.out (cat _ _ _ _ (cat _ _ _ _ (cat _ _ _ _ (strB_eq rfl) hT1) (strB_eq rfl)) hT2))
   clear hT1 hT2
   have cu:=HR.out.cell (2+k)
   have cp:=HR.out.cell (5+k)
   rw [rep_u nd fr u p d st i k hk3]at cu
   rw [rep_p nd fr u p d st i k hk3]at cp
   have j4:(0:Int)≤(k:Int):=by omega
   have j5:(k:Int)<3:=by omega
   have j6:(k:Int)<((3:Nat):Int):=by omega
   have j7:((k:Int)).toNat<3:=by omega
   have j1:((k:Int)).toNat=k:=Int.toNat_natCast k
   have j2:¬(k:Int)<0:=by omega
   have j3:IntKind.i64.wrap (k:Int)=(k:Int):=by rw [IntKind.wrap_i64];omega
   go_wp2_with fail
   go_region_held3 (fun w'=> w'.cell? ⟨w.heap.size,2+k,none⟩=some (.int .i64 (u k))∧ w'.cell? ⟨w.heap.size,5+k,none⟩=some (.int .i64 (p k))) (first|exact⟨cu,cp⟩) (first
    |(go_at_call_of 4 (Value.int .i64 (u k));refine(I1.out _).mono ?_;rintro e w2 ⟨rfl,hb2⟩;have hb3:=und hb2;have HR2:=Lib.hid (HR.out.below hb3 HR.out.lt);have cu:=HR2.out.cell (2+k);rw [rep_u nd fr u p d st i k hk3]at cu;have cp:=HR2.out.cell (5+k);rw [rep_p nd fr u p d st i k hk3]at cp;have HB:=Lib.hid (onward HB.out (Nat.le_refl _) hb3);clear hb2 hb3)
    |(go_at_call_of 4 (Value.int .i64 (p k));refine(I2.out _).mono ?_;rintro e w2 ⟨rfl,hb2⟩;have HR3:=Lib.hid (HR2.out.below hb2 HR2.out.lt);have cu:=HR3.out.cell (2+k);rw [rep_u nd fr u p d st i k hk3]at cu;have cp:=HR3.out.cell (5+k);rw [rep_p nd fr u p d st i k hk3]at cp;have HB:=Lib.hid (onward HB.out (Nat.le_refl _) hb2);clear hb2))
   go_wp2_with fail
   exact⟨⟨k+1,_,by omega,by go_num,rfl,HN.out,by simp only [ByteArray.size_append,ByteArray.size_mk',List.size_toArray,List.length_cons,List.length_nil];omega,HR3.out,HB.out⟩,by simp [intOf];omega⟩
  ·
   obtain rfl:k=3:=by omega
   have HZ1:=Lib.hid (show TzAt wr from(HB.out.cell (p:=⟨7,15,none⟩) h5).trans HZ.out)
   have h51:7<wr.heap.size:=Nat.lt_of_lt_of_le h5 HB.out.size
   obtain⟨D,hD⟩:∃D,D=(d%4294967296).toNat:=⟨_,rfl⟩
   have hd1:IntKind.u32.wrap d=(D:Int):=by rw [hD,IntKind.wrap_u32];omega
   have hd2:IntKind.u64.wrap (D:Int)=(D:Int):=by rw [IntKind.wrap_u64,hD];omega
   have hD1:D<4294967296:=by omega
   have HD:=Lib.hid hD
   clear hD
   have c8:=HR.out.cell 8
   have c9:=HR.out.cell 9
   rw [show(repA nd fr u p d st i)[8]?=some (.int .i64 d)from rfl]at c8
   rw [show(repA nd fr u p d st i)[9]?=some (.bool st)from rfl]at c9
   go_wp2_with fail
   obtain⟨X,hX⟩:∃X,X=strB (hexOf D):=⟨_,rfl⟩
   have hx8:X.size≤8:=by rw [hX,strB_size];exact hex_len 7 D hD1
   refine((show Calls Tryz.prog 89 #[.int .u64 (D:Int),.int .i64 16] wr fun e w'=>e=.returned (.string X)∧Below wr.heap.size wr w' from by rw [hX];exact hex_any D hD1 wr HZ1.out h51)).mono ?_
   rintro e w2 ⟨rfl,hb2⟩
   have HR2:=Lib.hid (HR.out.below hb2 HR.out.lt)
   have HB2:=Lib.hid (onward HB.out (Nat.le_refl _) hb2)
   have c9:=HR2.out.cell 9
   rw [show(repA nd fr u p d st i)[9]?=some (.bool st)from rfl]at c9
   have HN:=Lib.hid (show S++(({ data:=#[32] }:ByteArray)++X)=strB (headT nd fr++axs u p 3++([32]++hexOf D))from cat _ _ _ _ HS.out (cat _ _ _ _ (strB_eq rfl) hX))
   have d0:=HR2.out.cell 10
   rw [show(repA nd fr u p d st i)[10]?=some (.bool (i 0))from rfl]at d0
   have d1:=HR2.out.cell 11
   rw [show(repA nd fr u p d st i)[11]?=some (.bool (i 1))from rfl]at d1
   have d2:=HR2.out.cell 12
   rw [show(repA nd fr u p d st i)[12]?=some (.bool (i 2))from rfl]at d2
   have d3:=HR2.out.cell 13
   rw [show(repA nd fr u p d st i)[13]?=some (.bool (i 3))from rfl]at d3
   have g1:¬9223372036854775807<1+X.size:=by omega
   have g2:¬9223372036854775807<S.size+(1+X.size):=by omega
   have g3:¬9223372036854775807<S.size+(1+X.size)+5:=by omega
   clear hX hb2 c8
   have HO0:=Lib.hid (show ∀b:Bool,bodyL nd fr u p D b++outs i 0=headT nd fr++axs u p 3++([32]++hexOf D)++(if b then []else [32,119,101,97,107])from fun b=>by rw [show outs i 0=[]from rfl,List.append_nil];rfl)
   cases st
   have HT:=Lib.hid (show S++(({ data:=#[32] }:ByteArray)++X)++{ data:=#[32,119,101,97,107] }=strB (bodyL nd fr u p D false++outs i 0)from by rw [HO0.out];exact cat _ _ _ _ HN.out (strB_eq rfl))
   have lT:(S++(({ data:=#[32] }:ByteArray)++X)++{ data:=#[32,119,101,97,107] }).size≤310+6*0:=by simp only [ByteArray.size_append,ByteArray.size_mk',List.size_toArray,List.length_cons,List.length_nil];omega
   go_wp2_with fail
   generalize(S++(({ data:=#[32] }:ByteArray)++X)++{ data:=#[32,119,101,97,107] })=S5 at*
   rotate_left 1
   have HT:=Lib.hid (show S++(({ data:=#[32] }:ByteArray)++X)=strB (bodyL nd fr u p D true++outs i 0)from by rw [HO0.out,if_pos rfl,List.append_nil];exact HN.out)
   have lT:(S++(({ data:=#[32] }:ByteArray)++X)).size≤310+6*0:=by simp only [ByteArray.size_append,ByteArray.size_mk',List.size_toArray,List.length_cons,List.length_nil];omega
   go_wp2_with fail
   generalize(S++(({ data:=#[32] }:ByteArray)++X))=S5 at*
   rotate_left 1
   all_goals
    go_loopw [3,50] (fun s a wq=>∃(k:Nat) (S:ByteArray),k≤4∧a=.int .i64 (k:Int)∧s=.string S∧S=strB (bodyL nd fr u p D _++outs i k)∧S.size≤310+6*k∧wq=w2) (fun _ a _=>4-(intOf a).toNat)
    case atStart=>exact⟨0,S5,by omega,rfl,rfl,HT.out,lT,rfl⟩
    case round=>
     obtain⟨k,S,hk,rfl,rfl,hS,hl,rfl⟩:=hrel
     have HS:=Lib.hid hS
     clear hS
     by_cases hk4:k<4
     ·
      have hkb:decide ((k:Int)<4)=true:=decide_eq_true (by omega)
      obtain⟨T,hT⟩:∃T,T=strB (decC k):=⟨_,rfl⟩
      have I1:=Lib.hid (show ∀v,Calls Tryz.prog 24 #[.int .i64 (k:Int)] v fun e w'=>e=.returned (.string T)∧w'=v from fun v=>by rw [hT];exact itoa_any k (by omega) v)
      have l5:T.size≤2:=by rw [hT,strB_size];exact decC_len k (by omega)
      have g1:¬9223372036854775807<4+T.size:=by omega
      have g2:¬9223372036854775807<S.size+(4+T.size):=by omega
      have HTT:=Lib.hid hT
      clear hT
      have hix:∀W:World,(Instr.index 29 (.agg #[.bool (i 0),.bool (i 1),.bool (i 2),.bool (i 3)]) (.int .i64 (k:Int))).run Tryz.prog W=.ok (.bool (i k)) W:=fun W=>in_ix i k hk4 W
      rcases Bool.eq_false_or_eq_true (i k)with hi|hi
      ·
       have HN2:=Lib.hid (show S=strB (bodyL nd fr u p D _++outs i (k+1))from by rw [HS.out,show outs i (k+1)=outs i k from by show outs i k++_=_;rw [hi,if_pos rfl,List.append_nil]])
       go_wp2_with fail
       exact⟨⟨k+1,S,by omega,by go_num,rfl,HN2.out,by omega,trivial⟩,by simp [intOf];omega⟩
      ·
       have HN2:=Lib.hid (show S++(({ data:=#[32,111,117,116] }:ByteArray)++T)=strB (bodyL nd fr u p D _++outs i (k+1))from by
        rw [show bodyL nd fr u p D _++outs i (k+1)=(bodyL nd fr u p D _++outs i k)++([32,111,117,116]++decC k)from by rw [show outs i (k+1)=outs i k++([32,111,117,116]++decC k)from by show outs i k++_=_;rw [hi];rfl,List.append_assoc]]
        exact cat _ _ _ _ HS.out (cat _ _ _ _ (strB_eq rfl) HTT.out))
       go_wp2_with fail
       refine(I1.out _).mono ?_
       rintro e wz ⟨rfl,rfl⟩
       go_wp2_with fail
       exact⟨⟨k+1,_,by omega,by go_num,rfl,HN2.out,by simp only [ByteArray.size_append,ByteArray.size_mk',List.size_toArray,List.length_cons,List.length_nil];omega,trivial⟩,by simp [intOf];omega⟩
     ·
      obtain rfl:k=4:=by omega
      have g1:¬9223372036854775807<S.size+1:=by omega
      go_wp2_with fail
      go_ret
      exact⟨by rw [←HD.out];exact congrArg (fun s=>Ending.returned (.string s)) (cat _ _ _ _ HS.out (strB_eq (l:=[10]) rfl)),HB2.out⟩
end Dr
namespace Dr
open Go.RowKit Mem Sm Tx ReadLaw Mj
def smallOf (l:List Nat) (most:Nat):Option Nat:=if l.length=1∧48≤l.getD 0 0∧l.getD 0 0≤57∧l.getD 0 0-48<most then some (l.getD 0 0-48)else none
theorem smallOf_one {x most:Nat} (h1:48≤x) (h2:x≤57) (h3:x-48<most):smallOf [x] most=some (x-48):=if_pos ⟨rfl,h1,h2,h3⟩
set_option maxRecDepth 100000 in
set_option maxHeartbeats 4000000 in
theorem small_any (l:List Nat) (hl:Byt l) (most:Nat) (hm:most≤10) (w:World):
  Calls Tryz.prog 67 #[.string (strB l),.int .i64 (most:Int)] w fun e w'=>e=.returned (.tuple #[.int .i64 (((smallOf l most).getD 0:Nat):Int),.bool (smallOf l most).isSome])∧w'=w:=by
 obtain⟨S,hS⟩:∃S,S=strB l:=⟨_,rfl⟩
 have hsz:S.size=l.length:=by rw [hS,strB_size]
 rw [←hS]
 go_enter Tryz.func67,Tryz.ntmps67
 by_cases h1:l.length=1
 ·
  obtain⟨x,hx⟩:∃x,l.getD 0 0=x:=⟨_,rfl⟩
  have hix:=fun w=>index0_strB (x:=x) hS hl.1 (by omega) hx w
  have hxb:x<256:=hl.1 x (by rw [←hx];exact mem_getD (by omega))
  have hs1:(((S.size:Nat):Int)!=1)=false:=by rw [hsz,h1];rfl
  have hs0:0<S.size:=by omega
  have HSM:=Lib.hid (show smallOf l most=if 48≤x∧x≤57∧x-48<most then some (x-48)else none by unfold smallOf;rw [hx,h1];simp)
  clear hS hx h1 hsz
  by_cases a:x<48
  ·
   have a1:(x:Int)<48:=by omega
   rw [if_neg (by omega)]at HSM
   go_wp2_with fail
   go_ret2
   exact⟨by rw [HSM.out];rfl,rfl⟩
  ·
   have a1:¬(x:Int)<48:=by omega
   by_cases b:57<x
   ·
    have b1:(57:Int)<(x:Int):=by omega
    rw [if_neg (by omega)]at HSM
    go_wp2_with fail
    go_ret2
    exact⟨by rw [HSM.out];rfl,rfl⟩
   ·
    have b1:¬(57:Int)<(x:Int):=by omega
    have hw:IntKind.u8.wrap ((x:Int)-48)=((x-48:Nat):Int):=by rw [IntKind.wrap_u8];omega
    have hw2:IntKind.i64.wrap ((x-48:Nat):Int)=((x-48:Nat):Int):=by rw [IntKind.wrap_i64];omega
    by_cases c:most≤x-48
    ·
     have c1:(most:Int)≤((x-48:Nat):Int):=by omega
     rw [if_neg (by omega)]at HSM
     go_wp2_with fail
     go_ret2
     exact⟨by rw [HSM.out];rfl,rfl⟩
    ·
     have c1:¬(most:Int)≤((x-48:Nat):Int):=by omega
     rw [if_pos (by omega)]at HSM
     go_wp2_with fail
     go_ret2
     exact⟨by rw [HSM.out];rfl,rfl⟩
 ·
  have hs1:(((S.size:Nat):Int)!=1)=true:=bne_iff_ne.2 (by omega)
  have HSM:=Lib.hid (show smallOf l most=none from if_neg (by omega))
  clear hS hsz
  go_wp2_with fail
  go_ret2
  exact⟨by rw [HSM.out];rfl,rfl⟩
end Dr
namespace Dr
open Go.RowKit Mem Rws Sm Nd Cl Cf ReadLaw
def dkF (C:Nat→Value) (rd:Nat→Int) (ba bv bits:Value) (j:Nat):Value:=
 if j<297 then C j else if j<309 then .int .i64 (rd (j-297))else if j=309 then .int .i64 (-1)else if j=310 then .slice none 0 0 else if j=311 then ba else if j=312 then bv else bits
def DkX (g:Nat) (bv:Value) (b:Nat):Prop:=b=g∨bv.ownBlock=some b
structure DeskAt (w:World) (g:Nat) (c:CluS) (rd:Nat→Int) (out:List Nat) (bits:Value) (VA:Nat→Option Addr) (VC:Nat→Nat) (ba bv:Value):Prop where
 blk:Blk w g 85 (row 314 (dkF (cluCell c.fr c.F (verOf VA c.V VC)) rd ba bv bits))
 ver:VerOk w c VA VC (DkX g bv)
 adr:ba=.pointer none∨ba=.pointer (some ⟨g,311,none⟩)
 own:w.ownsRow g 5 1 bv out.length (bytesV out)
 nil:out=[]→bv=.slice none 0 0
 sane:Sane c
 rwf:∀i,i<12→Wf (rd i)
def Desk (w:World) (g:Nat) (c:CluS) (rd:Nat→Int) (out:List Nat) (bits:Value):Prop:=∃VA VC ba bv,DeskAt w g c rd out bits VA VC ba bv
theorem DeskAt.below {w w':World} {g:Nat} {c:CluS} {rd:Nat→Int} {out:List Nat} {bits:Value} {VA:Nat→Option Addr} {VC:Nat→Nat} {ba bv:Value} (h:DeskAt w g c rd out bits VA VC ba bv) (hb:Below w.heap.size w w'):DeskAt w' g c rd out bits VA VC ba bv:=
 ⟨h.blk.below hb h.blk.lt,h.ver.below hb,h.adr,Nd.ownsRow_below h.own hb,h.nil,h.sane,h.rwf⟩
theorem DeskAt.ne {w:World} {g:Nat} {c:CluS} {rd:Nat→Int} {out:List Nat} {bits:Value} {VA:Nat→Option Addr} {VC:Nat→Nat} {ba bv:Value} (h:DeskAt w g c rd out bits VA VC ba bv):bv.ownBlock≠some g:=own_ne_b h.own h.blk (by decide)
theorem dk_over (C C':Nat→Value) (rd:Nat→Int) (ba bv bits:Value) (j:Nat):over 0 297 C' (dkF C rd ba bv bits) j=dkF C' rd ba bv bits j:=by
 by_cases hj:j<297
 · rw [over_in (Nat.zero_le _) (by omega),Nat.sub_zero];unfold dkF;rw [if_pos hj]
 · rw [over_out (by omega)];unfold dkF;rw [if_neg hj,if_neg hj]
theorem DeskAt.setC {w:World} {g:Nat} {c:CluS} {rd:Nat→Int} {out:List Nat} {bits:Value} {VA:Nat→Option Addr} {VC:Nat→Nat} {ba bv:Value} (h:DeskAt w g c rd out bits VA VC ba bv) {c':CluS} {VA':Nat→Option Addr} {VC':Nat→Nat} (hv:VerOk w c' VA' VC' (DkX g bv)) (hs:Sane c'):
  DeskAt (w.setCells g 0 (row 297 (cluCell c'.fr c'.F (verOf VA' c'.V VC'))).toList) g c' rd out bits VA' VC' ba bv:=by
 have hgr:=gr_setCells w g (row 297 (cluCell c'.fr c'.F (verOf VA' c'.V VC'))).toList 0
 refine⟨?_,hv.grown hgr (fun _ e=>.inl (by injection e with e;exact e.symm)),h.adr,h.own.kept hgr (.inr h.ne),h.nil,hs,h.rwf⟩
 have hb:=blk_mid h.blk 0 297 (cluCell c'.fr c'.F (verOf VA' c'.V VC'))
 have e:row 314 (over 0 297 (cluCell c'.fr c'.F (verOf VA' c'.V VC')) (dkF (cluCell c.fr c.F (verOf VA c.V VC)) rd ba bv bits))=row 314 (dkF (cluCell c'.fr c'.F (verOf VA' c'.V VC')) rd ba bv bits):=row_congr fun j hj=>dk_over _ _ _ _ _ _ j
 rw [e]at hb
 exact hb
theorem dk_bits (C:Nat→Value) (rd:Nat→Int) (ba bv bits b2:Value):(row 314 (dkF C rd ba bv bits)).setIfInBounds 313 b2=row 314 (dkF C rd ba bv b2):=by
 rw [row_set]
 refine row_congr fun j hj=>?_
 by_cases h:j=313
 · subst h;rw [if_pos rfl];rfl
 ·
  rw [if_neg h]
  unfold dkF
  by_cases h1:j<297
  · rw [if_pos h1,if_pos h1]
  ·
   rw [if_neg h1,if_neg h1]
   by_cases h2:j<309
   · rw [if_pos h2,if_pos h2]
   ·
    rw [if_neg h2,if_neg h2]
    by_cases h3:j=309
    · rw [if_pos h3,if_pos h3]
    ·
     rw [if_neg h3,if_neg h3]
     by_cases h4:j=310
     · rw [if_pos h4,if_pos h4]
     ·
      rw [if_neg h4,if_neg h4]
      by_cases h5:j=311
      · rw [if_pos h5,if_pos h5]
      · rw [if_neg h5,if_neg h5,if_pos (show j=312 by omega),if_pos (show j=312 by omega)]
theorem DeskAt.setB {w:World} {g:Nat} {c:CluS} {rd:Nat→Int} {out:List Nat} {bits:Value} {VA:Nat→Option Addr} {VC:Nat→Nat} {ba bv:Value} (h:DeskAt w g c rd out bits VA VC ba bv) (b2:Value):DeskAt (w.setCell ⟨g,313,none⟩ b2) g c rd out b2 VA VC ba bv:=by
 have hgr:=gr_set w ⟨g,313,none⟩ b2
 refine⟨?_,h.ver.grown hgr (fun _ e=>.inl (by injection e with e;exact e.symm)),h.adr,h.own.kept hgr (.inr h.ne),h.nil,h.sane,h.rwf⟩
 have hb:=h.blk.set 313 b2
 rw [dk_bits]at hb
 exact hb
def rdK (rd:Nat→Int) (k:Nat) (r:Nat→Int) (i:Nat):Int:=if k*3≤i∧i<k*3+3 then r (i-k*3)else rd i
theorem dk_read (C:Nat→Value) (rd:Nat→Int) (ba bv bits:Value) (k:Nat) (hk:k<4) (r:Nat→Int) (j:Nat):over (297+k*3) 3 (fun a=>.int .i64 (r a)) (dkF C rd ba bv bits) j=dkF C (rdK rd k r) ba bv bits j:=by
 by_cases h:297+k*3≤j∧j<297+k*3+3
 ·
  rw [over_in h.1 h.2]
  unfold dkF rdK
  rw [if_neg (by omega),if_pos (by omega),if_pos (by omega),show j-297-k*3=j-(297+k*3)by omega]
 ·
  rw [over_out (by omega)]
  unfold dkF rdK
  by_cases h1:j<297
  · rw [if_pos h1,if_pos h1]
  ·
   rw [if_neg h1,if_neg h1]
   by_cases h2:j<309
   · rw [if_pos h2,if_pos h2,if_neg (by omega)]
   · rw [if_neg h2,if_neg h2]
theorem DeskAt.setR {w:World} {g:Nat} {c:CluS} {rd:Nat→Int} {out:List Nat} {bits:Value} {VA:Nat→Option Addr} {VC:Nat→Nat} {ba bv:Value} (h:DeskAt w g c rd out bits VA VC ba bv) (k:Nat) (hk:k<4) (r:Nat→Int) (hr:∀i,i<3→Wf (r i)):DeskAt (w.setCells g (297+k*3) [.int .i64 (r 0),.int .i64 (r 1),.int .i64 (r 2)]) g c (rdK rd k r) out bits VA VC ba bv:=by
 have hgr:=gr_setCells w g [.int .i64 (r 0),.int .i64 (r 1),.int .i64 (r 2)] (297+k*3)
 refine⟨?_,h.ver.grown hgr (fun _ e=>.inl (by injection e with e;exact e.symm)),h.adr,h.own.kept hgr (.inr h.ne),h.nil,h.sane,fun i hi=>?_⟩
 ·
  have hb:=blk_mid h.blk (297+k*3) 3 (fun a=>.int .i64 (r a))
  have e:row 314 (over (297+k*3) 3 (fun a=>.int .i64 (r a)) (dkF (cluCell c.fr c.F (verOf VA c.V VC)) rd ba bv bits))=row 314 (dkF (cluCell c.fr c.F (verOf VA c.V VC)) (rdK rd k r) ba bv bits):=row_congr fun j hj=>dk_read _ _ _ _ _ k hk r j
  rw [e]at hb
  exact hb
 ·
  unfold rdK
  split
  · exact hr _ (by omega)
  · exact h.rwf i hi
theorem ver_begin (w:World) (t0 t1 t2 t3:Int) (X:Nat→Prop):VerOk w (beginS t0 t1 t2 t3) (fun _=>none) (fun _=>0) X:=fun j hj=>⟨fun _=>rfl,by show(([]:List Bool)).length≤0;simp,Rd.nil _ _ _ _,fun h=>absurd h (by show ¬0<(([]:List Bool)).length;simp)⟩
theorem VerOk.kp {w w':World} {c:CluS} {VA:Nat→Option Addr} {VC:Nat→Nat} {X:Nat→Prop} (h:VerOk w c VA VC X) (hk:Kp X w w'):VerOk w' c VA VC X:=fun j hj=>by
 obtain⟨h1,h2,h3,h4⟩:=h j hj
 exact⟨h1,h2,rd_kept h3 hk.size (fun hn a e=>hk.block a.block (rd_lt h3 hn e) (h4 hn a e)),h4⟩
theorem DeskAt.write {w w':World} {g:Nat} {c:CluS} {rd:Nat→Int} {out s:List Nat} {bits:Value} {VA:Nat→Option Addr} {VC:Nat→Nat} {ba bv v':Value} (h:DeskAt w g c rd out bits VA VC ba bv)
  (hb:Blk w' g 85 (row 314 (putB (dkF (cluCell c.fr c.F (verOf VA c.V VC)) rd ba bv bits) g 311 v'))) (ho:w'.ownsRow g 5 1 v' (out++s).length (bytesV (out++s)))
  (hv:v'.ownBlock=bv.ownBlock∨∃b,v'.ownBlock=some b∧w.heap.size≤b) (hk:Kp (fun b=>b=g∨bv.ownBlock=some b) w w') (hs:s≠[]):DeskAt w' g c rd (out++s) bits VA VC (.pointer (some ⟨g,311,none⟩)) v':=by
 refine⟨?_,?_,.inr rfl,ho,fun e=>absurd (List.append_eq_nil_iff.1 e).2 hs,h.sane,h.rwf⟩
 ·
  have e:row 314 (putB (dkF (cluCell c.fr c.F (verOf VA c.V VC)) rd ba bv bits) g 311 v')=row 314 (dkF (cluCell c.fr c.F (verOf VA c.V VC)) rd (.pointer (some ⟨g,311,none⟩)) v' bits):=row_congr fun j hj=>by
   unfold putB dkF
   by_cases h1:j=311
   · subst h1;rfl
   ·
    rw [if_neg h1]
    by_cases h2:j=312
    · subst h2;rfl
    ·
     rw [if_neg h2]
     by_cases h3:j<297
     · rw [if_pos h3,if_pos h3]
     ·
      rw [if_neg h3,if_neg h3]
      by_cases h4:j<309
      · rw [if_pos h4,if_pos h4]
      ·
       rw [if_neg h4,if_neg h4]
       by_cases h5:j=309
       · rw [if_pos h5,if_pos h5]
       ·
        rw [if_neg h5,if_neg h5]
        by_cases h6:j=310
        · rw [if_pos h6,if_pos h6]
        · rw [if_neg h6,if_neg h6,if_neg h1,if_neg h1,if_neg h2,if_neg h2]
  rw [e]at hb
  exact hb
 ·
  intro j hj
  obtain⟨h1,h2,h3,h4⟩:=VerOk.kp h.ver hk j hj
  refine⟨h1,h2,h3,fun hn a e hx=>?_⟩
  have hl:=rd_lt (h.ver j hj).2.2.1 hn e
  rcases hx with hx|hx
  · exact h4 hn a e (.inl hx)
  ·
   rcases hv with hv|⟨b,hv,hb2⟩
   · exact h4 hn a e (.inr (hv.symm.trans hx))
   · rw [hv]at hx;injection hx with hx;omega
theorem DeskAt.kpB {w w':World} {g:Nat} {c:CluS} {rd:Nat→Int} {out:List Nat} {bits:Value} {VA:Nat→Option Addr} {VC:Nat→Nat} {ba bv:Value} (h:DeskAt w g c rd out bits VA VC ba bv) (hk:Kp (fun b=>b=g∨bv.ownBlock=some b) w w'):Below g w w':=
 ⟨hk.os,hk.tape,hk.output,hk.size,fun k hk2=>hk.block k (Nat.lt_trans hk2 h.blk.lt) (fun hx=>by
  rcases hx with hx|hx
  · omega
  · have:=(h.own.lt _ hx).1;omega)⟩
theorem dk_lies (C:Nat→Value) (rd:Nat→Int) (ba bv bits:Value):(row 314 (dkF C rd ba bv bits)).setIfInBounds 310 (.slice none 0 0)=row 314 (dkF C rd ba bv bits):=by
 rw [row_set]
 refine row_congr fun j hj=>?_
 by_cases h:j=310
 · subst h;rw [if_pos rfl];rfl
 · rw [if_neg h]
theorem DeskAt.setL {w:World} {g:Nat} {c:CluS} {rd:Nat→Int} {out:List Nat} {bits:Value} {VA:Nat→Option Addr} {VC:Nat→Nat} {ba bv:Value} (h:DeskAt w g c rd out bits VA VC ba bv):DeskAt (w.setCell ⟨g,310,none⟩ (.slice none 0 0)) g c rd out bits VA VC ba bv:=by
 have hgr:=gr_set w ⟨g,310,none⟩ (.slice none 0 0)
 refine⟨?_,h.ver.grown hgr (fun _ e=>.inl (by injection e with e;exact e.symm)),h.adr,h.own.kept hgr (.inr h.ne),h.nil,h.sane,h.rwf⟩
 have hb:=h.blk.set 310 (.slice none 0 0)
 rw [dk_lies]at hb
 exact hb
theorem dk_clu {w:World} {g:Nat} {C:Nat→Value} {rd:Nat→Int} {ba bv bits:Value} (h:Blk w g 85 (row 314 (dkF C rd ba bv bits))):w.rangeAt g 0 ((List.range 297).map C):=by
 have h1:=row_range h 0 297 (by omega)
 rwa [List.map_congr_left (g:=C) (fun j hj=>by rw [Nat.zero_add];unfold dkF;exact if_pos (List.mem_range.1 hj))]at h1
theorem dk_in {w:World} {g:Nat} {C:Nat→Value} {rd:Nat→Int} {ba bv bits:Value} (h:Blk w g 85 (row 314 (dkF C rd ba bv bits))):w.rangeAt g 297 ((List.range 14).map (inCell rd (-1) (.slice none 0 0))):=by
 have h1:=row_range h 297 14 (by omega)
 rwa [List.map_congr_left (g:=inCell rd (-1) (.slice none 0 0)) (fun j hj=>by
  have hj:=List.mem_range.1 hj
  unfold dkF inCell
  rw [if_neg (by omega)]
  by_cases h1:j<12
  · rw [if_pos (by omega),if_pos h1,Nat.add_sub_cancel_left]
  ·
   rw [if_neg (by omega),if_neg h1]
   by_cases h2:j=12
   · rw [if_pos (by omega),if_pos h2]
   · rw [if_neg (by omega),if_neg h2,if_pos (by omega)])]at h1
end Dr
namespace Dr
open Go.RowKit Mem Rws Sm Nd Cl Cf ReadLaw
set_option maxRecDepth 100000 in
set_option maxHeartbeats 8000000 in
theorem tune_any (ws:List (List Nat)) (hws:∀l∈ws,Byt l) (h5:ws.length=5) (hok:okN ws 4=true) (t0 t1 t2 t3:Int) (ht:numW (ws.drop 1)=[t0,t1,t2,t3]) (hwf:Wf t0∧Wf t1∧Wf t2∧Wf t3)
  (g:Nat) (c:CluS) (rd:Nat→Int) (out:List Nat) (b o cc:Nat) (hc:ws.length≤cc) (w:World) (h:Desk w g c rd out (.slice (some ⟨b,o,none⟩) 5 cc)) (hrd:Rd w w.heap.size 1 (some ⟨b,o,none⟩) ws.length (strsV ws)):
  Calls Tryz.prog 44 #[.pointer (some ⟨g,0,none⟩)] w fun e w'=>e=.returned (.bool true)∧Desk w' g (beginS t0 t1 t2 t3) rd out (.slice (some ⟨b,o,none⟩) 5 cc)∧Below g w w':=by
 obtain⟨VA,VC,ba,bv,hd⟩:=h
 have HD:=Lib.hid hd
 have hgl:=hd.blk.lt
 have c313: w.cell? ⟨g,313,none⟩=some (.slice (some ⟨b,o,none⟩) ws.length cc):=by rw [hd.blk.cell,row_at (by omega),h5];rfl
 have HW:=Lib.hid hwf
 have HOK:=Lib.hid hok
 have HT:=Lib.hid ht
 have HN:=Lib.hid (numbers_any ws hws (by omega) (by omega) 4 (by omega) g b o cc hc w c313 hrd)
 clear hd hwf hok ht hws hrd c313
 go_enter Tryz.func44,Tryz.ntmps44
 go_wp2_with fail
 refine HN.out.mono ?_
 rintro e w2 ⟨h1,h2,hb⟩
 obtain⟨A',c',rfl,hown⟩:=h1 HOK.out
 rw [HT.out]at hown
 obtain⟨b2,o2,e2,hl2,hce⟩:=(Rd.of_own hown).2 (by omega)
 subst e2
 have c0: w2.cell? ⟨b2,o2,none⟩=some (.int .i64 t0):=hce 0 _ rfl
 have c1: w2.cell? ⟨b2,o2+1,none⟩=some (.int .i64 t1):=hce 1 _ rfl
 have c2: w2.cell? ⟨b2,o2+2,none⟩=some (.int .i64 t2):=hce 2 _ rfl
 have c3: w2.cell? ⟨b2,o2+3,none⟩=some (.int .i64 t3):=hce 3 _ rfl
 have HD2:=Lib.hid (HD.out.below hb)
 have HB:=Lib.hid (hb.mono (Nat.le_of_lt hgl))
 clear h1 h2 hb hown HN HD hce
 go_upto_region 3 with fail
 have HSS:=And.intro c0 (And.intro c1 (And.intro c2 c3))
 refine wp_region_noPanic ?_
 refine Rg.beginR [3,6,9,12] (fun w'=> w'.cell? ⟨b2,o2,none⟩=some (.int .i64 t0)∧ w'.cell? ⟨b2,o2+1,none⟩=some (.int .i64 t1)∧ w'.cell? ⟨b2,o2+2,none⟩=some (.int .i64 t2)∧ w'.cell? ⟨b2,o2+3,none⟩=some (.int .i64 t3)) (by kernel_rfl) ?_
 refine Rg.tp 0 ⟨some 11,.move (.tmp 0),_,_,_,none⟩ (v:=?_) rfl ?_ ?_
 rotate_left 1
 · (intro w;go_simp;(try with_reducible rfl))
 try simp only [Rg.lp]
 refine Rg.tp 1 ⟨some 12,.move (.tmp 3),_,_,_,none⟩ (v:=?_) rfl ?_ ?_
 rotate_left 1
 · (intro w;go_simp;(try with_reducible rfl))
 try simp only [Rg.lp]
 refine Rg.tp 2 ⟨some 13,.indexAddr 70 (.tmp 12) (.const (.int .i64 0)),_,_,_,none⟩ (v:=?_) rfl ?_ ?_
 rotate_left 1
 · (intro w;go_simp;(try with_reducible rfl))
 try simp only [Rg.lp]
 refine Rg.stp_s 3 (.int .i64 t0) HSS (hy:=?_) (h:=?_)
 · (intro w' hSw;have q:=hSw.1;go_simp;(try with_reducible rfl))
 try simp only [Rg.lp]
 refine Rg.tp 4 ⟨some 15,.move (.tmp 3),_,_,_,none⟩ (v:=?_) rfl ?_ ?_
 rotate_left 1
 · (intro w;go_simp;(try with_reducible rfl))
 try simp only [Rg.lp]
 refine Rg.tp 5 ⟨some 16,.indexAddr 70 (.tmp 15) (.const (.int .i64 1)),_,_,_,none⟩ (v:=?_) rfl ?_ ?_
 rotate_left 1
 · (intro w;go_simp;(try with_reducible rfl))
 try simp only [Rg.lp]
 refine Rg.stp_s 6 (.int .i64 t1) HSS (hy:=?_) (h:=?_)
 · (intro w' hSw;have q:=hSw.2.1;go_simp;(try with_reducible rfl))
 try simp only [Rg.lp]
 refine Rg.tp 7 ⟨some 18,.move (.tmp 3),_,_,_,none⟩ (v:=?_) rfl ?_ ?_
 rotate_left 1
 · (intro w;go_simp;(try with_reducible rfl))
 try simp only [Rg.lp]
 refine Rg.tp 8 ⟨some 19,.indexAddr 70 (.tmp 18) (.const (.int .i64 2)),_,_,_,none⟩ (v:=?_) rfl ?_ ?_
 rotate_left 1
 · (intro w;go_simp;(try with_reducible rfl))
 try simp only [Rg.lp]
 refine Rg.stp_s 9 (.int .i64 t2) HSS (hy:=?_) (h:=?_)
 · (intro w' hSw;have q:=hSw.2.2.1;go_simp;(try with_reducible rfl))
 try simp only [Rg.lp]
 refine Rg.tp 10 ⟨some 21,.move (.tmp 3),_,_,_,none⟩ (v:=?_) rfl ?_ ?_
 rotate_left 1
 · (intro w;go_simp;(try with_reducible rfl))
 try simp only [Rg.lp]
 refine Rg.tp 11 ⟨some 22,.indexAddr 70 (.tmp 21) (.const (.int .i64 3)),_,_,_,none⟩ (v:=?_) rfl ?_ ?_
 rotate_left 1
 · (intro w;go_simp;(try with_reducible rfl))
 try simp only [Rg.lp]
 refine Rg.stp_s 12 (.int .i64 t3) HSS (hy:=?_) (h:=?_)
 · (intro w' hSw;have q:=hSw.2.2.2;go_simp;(try with_reducible rfl))
 try simp only [Rg.lp]
 refine Rg.tp 13 ⟨some 24,.build 23 #[(0,.tmp 14),(1,.tmp 17),(2,.tmp 20),(3,.tmp 23)],_,_,_,none⟩ (v:=?_) rfl ?_ ?_
 rotate_left 1
 · (intro w;go_simp;(try with_reducible rfl))
 try simp only [Rg.lp]
 refine Rg.stp_o 14 ?_
 refine Rg.stepF ?_ ?_
 · kernel_rfl
 intro K hK
 rw [if_pos (by rfl)]
 clear HSS
 go_simp
 refine(cluster_any t0 t1 t2 t3 _).mono ?_
 rintro e w3 ⟨rfl,hb⟩
 have HD3:=Lib.hid (HD2.out.below (und hb))
 have HB:=Lib.hid (onward HB.out (by have:=HB.out.size;omega) (und hb))
 rw [begin_row]
 have HSS:True:=trivial
 clear hb
 refine hK.out _ _ ?_
 clear hK K
 try simp only [Rg.lp]
 refine Rg.tp 15 ⟨some 26,.nilCheck (.tmp 11),_,_,_,none⟩ (v:=?_) rfl ?_ ?_
 rotate_left 1
 · (intro w;go_simp;(try with_reducible rfl))
 try simp only [Rg.lp]
 refine Rg.tp 16 ⟨some 27,.fieldAddr 85 (.tmp 26) 0,_,_,_,none⟩ (v:=?_) rfl ?_ ?_
 rotate_left 1
 · (intro w;go_simp;(try with_reducible rfl))
 try simp only [Rg.lp]
 refine Rg.stp_o 17 ?_
 refine Rg.stepF ?_ ?_
 · kernel_rfl
 intro K hK
 rw [if_pos (by rfl)]
 clear HSS
 refine wp_store_mid 42 _ _ rfl g 0 (row 297 (cluCell (beginS t0 t1 t2 t3).fr (beginS t0 t1 t2 t3).F (verOf (fun _=>none) (beginS t0 t1 t2 t3).V (fun _=>0)))) rfl rfl (by rw [row_size];exact row_there HD3.out.blk 0 297 (by omega)) (by rw [row_size];kernel_rfl) (row_one (cluCell_one (sane_begin HW.out).ok _ _ _ _)) ?_
 have HSS:True:=trivial
 refine hK.out _ _ ?_
 clear hK K
 try simp only [Rg.lp]
 refine Rg.doneR (by kernel_rfl) ?_ _
 refine NoPanic.normal ?_
 go_wp2_with fail
 go_ret
 exact⟨rfl,⟨_,_,_,_,HD3.out.setC (ver_begin _ _ _ _ _ _) (sane_begin HW.out)⟩,below_setCells (Nat.le_refl _) _ _ HB.out⟩
end Dr
namespace Dr
open Go.RowKit Mem Rws Sm Nd Cl Cf ReadLaw Mj
theorem elemStr:Elem Tryz.prog 78 9 (.string ⟨#[]⟩) 1 16:=⟨Tryz.underlying78,by kernel_rfl,by kernel_rfl,by omega⟩
theorem own_one (w:World) (base:Nat) (e:TypeId) (v:Value) (hB:base≤w.heap.size):(w.alloc (.cells #[v] e)).ownsRow base e 1 (.slice (some ⟨w.heap.size,0,none⟩) 1 1) 1 [v]:=
 ⟨rfl,.inr ⟨w.heap.size,1,#[v],rfl,hB,Blk.fresh w e #[v],by omega,by unfold maxLen;omega,rfl,rfl⟩⟩
set_option maxRecDepth 100000 in
set_option maxHeartbeats 400000 in
theorem read_any (ws:List (List Nat)) (hws:∀l∈ws,Byt l) (h5:ws.length=5) (k:Nat) (hk:k<4) (hsm:smallOf (ws.getD 1 []) 4=some k) (hok:(ws.drop 2).all okW=true) (r:Nat→Int) (ht:numW (ws.drop 2)=[r 0,r 1,r 2]) (hwf:∀i,i<3→Wf (r i))
  (g:Nat) (c:CluS) (rd:Nat→Int) (out:List Nat) (b o cc:Nat) (hc:ws.length≤cc) (w:World) (h:Desk w g c rd out (.slice (some ⟨b,o,none⟩) 5 cc)) (hrd:Rd w w.heap.size 1 (some ⟨b,o,none⟩) ws.length (strsV ws)):
  Calls Tryz.prog 45 #[.pointer (some ⟨g,0,none⟩)] w fun e w'=>e=.returned (.bool true)∧(∃b2,Desk w' g c (rdK rd k r) out b2)∧Below g w w':=by
 obtain⟨VA,VC,ba,bv,hd⟩:=h
 have HD:=Lib.hid hd
 have hgl:=hd.blk.lt
 have c313: w.cell? ⟨g,313,none⟩=some (.slice (some ⟨b,o,none⟩) 5 cc):=by rw [hd.blk.cell,row_at (by omega)];rfl
 have HW:=Lib.hid hwf
 have HOK:=Lib.hid hok
 have HT:=Lib.hid ht
 have HWS:=Lib.hid hws
 have HRD:=Lib.hid hrd
 have HCE:Hid (∀j,j<ws.length→ w.cell? ⟨b,o+j,none⟩=some (.string (strB (ws.getD j [])))):=Lib.hid fun j hj=>by
  obtain⟨b',o',e,_,h⟩:=hrd.2 (by omega)
  injection e with e
  injection e with e1 e2
  subst e1 e2
  exact h j _ (strsV_at ws j hj)
 have c1:=HCE.out 1 (by omega)
 have HSM:=Lib.hid (small_any (ws.getD 1 []) (HWS.out _ (by rw [List.getD_eq_getElem?_getD,List.getElem?_eq_getElem (show 1<ws.length by omega)];exact List.getElem_mem _)) 4 (by omega))
 rw [hsm]at HSM
 have HSM:=Lib.hid (show ∀v,Calls Tryz.prog 67 #[.string (strB (ws.getD 1 [])),.int .i64 4] v fun e w'=>e=.returned (.tuple #[.int .i64 (k:Int),.bool true])∧w'=v from HSM.out)
 clear hd hwf hok ht hws hrd
 go_enter Tryz.func45,Tryz.ntmps45
 obtain⟨X1,hX1⟩:∃X,X=strB (ws.getD 1 []):=⟨_,rfl⟩
 rw [←hX1]at c1 HSM
 have HX1:=Lib.hid hX1
 have HSZ:=Lib.hid hsm
 clear hX1 hsm
 go_wp2_with fail
 refine(HSM.out w).mono ?_
 rintro e w2 ⟨rfl,rfl⟩
 go_upto_region 4 with fail
 have hcc:¬cc=2:=by omega
 have hc2:2≤cc:=by omega
 have HBA:=Lib.hid ((Below.refl w2.heap.size w2).alloc (Nat.le_refl _) (.cells #[.string ⟨#[]⟩] 9))
 have HOW:=Lib.hid (own_one w2 w2.heap.size 9 (.string ⟨#[]⟩) (Nat.le_refl _))
 have HR2:=Lib.hid (show Rd (w2.alloc (.cells #[.string ⟨#[]⟩] 9)) w2.heap.size 1 (some ⟨b,o+2,none⟩) 3 (strsV (ws.drop 2))from⟨by rw [strsV_len,List.length_drop];omega,fun _=>⟨b,o+2,rfl,by
  obtain⟨b',o',e,hl,_⟩:=HRD.out.2 (by omega)
  injection e with e
  injection e with e1 e2
  rw [e1];exact hl,fun j u hu=>by
  have hj:j<(ws.drop 2).length:=by rw [←strsV_len];exact(List.getElem?_eq_some_iff.1 hu).1
  rw [strsV_at _ _ hj]at hu
  rw [List.length_drop]at hj
  have hbl:b<w2.heap.size:=by
   obtain⟨b',o',e,hl,_⟩:=HRD.out.2 (by omega)
   injection e with e
   injection e with e1 e2
   rw [e1];exact hl
  refine(HBA.out.cell (p:=⟨b,o+2+j,none⟩) hbl).trans ?_
  rw [show o+2+j=o+(2+j)by omega,HCE.out (2+j) (by omega),←hu]
  rw [List.getD_eq_getElem?_getD,List.getD_eq_getElem?_getD,List.getElem?_drop]⟩⟩)
 go_wp2_with(first
  |(refine wpList_slice1 rfl 78 9 _ rfl (.string ⟨#[]⟩) rfl 1 Tryz.underlying78 (by kernel_rfl) (by kernel_rfl) (by omega) (by omega) rfl ?_)
  |(at_builtin;refine wpList_append_rd _ rfl (.tmp 24) (.tmp 29) 78 rfl (base:=w2.heap.size) elemStr rfl HOW.out rfl (fun h=>by cases h) HR2.out (fun u hu=>by unfold strsV at hu;obtain⟨l,_,rfl⟩:=List.mem_map.1 hu;rfl) (by unfold maxLen;omega) (by omega) HBA.out.size ?_;intro A5 d5 w5 hA5 hown hg;have HB5:=Lib.hid (HBA.out.grown hg HBA.out.size (fun g e=>(HOW.out.lt g e).1));have HD5:=Lib.hid (HD.out.below HB5.out);have c5:=HD5.out.blk.cell 313;rw [row_at (by omega)]at c5;have f5:=HD5.out.blk.thaw 313;have HO5:=Lib.hid hown;clear hA5 hown hg))
 have hgr:=gr_set w5 ⟨g,313,none⟩ (.slice A5 4 d5)
 have HO6:=Lib.hid (HO5.out.kept hgr (.inr (own_ne_b HO5.out HD5.out.blk (by decide))))
 have HD6:=Lib.hid (HD5.out.setB (.slice A5 4 d5))
 have HB6:=Lib.hid (show Below g w2 (w5.setCell ⟨g,313,none⟩ (.slice A5 4 d5))from Below.grown (HB5.out.mono (Nat.le_of_lt hgl)) hgr (Nat.le_trans (Nat.le_of_lt hgl) HB5.out.size) (fun g' e=>by injection e with e;exact Nat.le_of_eq e))
 generalize(w5.setCell ⟨g,313,none⟩ (.slice A5 4 d5))=w6 at*
 clear hgr c5 f5 HO5 HD5 HB5 HR2 HOW HBA HD
 obtain⟨h0,⟨h1,h2⟩|⟨g2,cap,cur,e2,h3⟩⟩:=HO6.out
 · cases h2
 injection e2 with e2 _ e3
 subst e2
 have c6: w6.cell? ⟨g,313,none⟩=some (.slice (some ⟨g2,0,none⟩) ([]::ws.drop 2).length d5):=by rw [HD6.out.blk.cell,row_at (by omega),List.length_cons,List.length_drop,h5];rfl
 have hok2:okN ([]::ws.drop 2) 3=true:=by
  unfold okN
  rw [Bool.and_eq_true]
  exact⟨decide_eq_true (by rw [List.length_cons,List.length_drop,h5]),HOK.out⟩
 refine(numbers_any ([]::ws.drop 2) (fun l hl=>by
  rcases List.mem_cons.1 hl with rfl|hl
  · exact⟨by simp,by simp⟩
  ·
   exact HWS.out l (List.mem_of_mem_drop hl)) (by rw [List.length_cons,List.length_drop];omega) (by rw [List.length_cons,List.length_drop];omega) 3 (by omega) g g2 0 d5 (by rw [List.length_cons,List.length_drop];have:=h3.2.2.1;omega) w6 c6 (by
   have hr:=Rd.of_own HO6.out
   rw [List.length_cons,List.length_drop,h5]
   exact hr)).mono ?_
 rintro e w7 ⟨h1,h2,hb⟩
 obtain⟨A',c',rfl,hown⟩:=h1 hok2
 rw [show([]::ws.drop 2).drop 1=ws.drop 2 from rfl,HT.out]at hown
 obtain⟨b2,o2,e2,hl2,hce⟩:=(Rd.of_own hown).2 (by omega)
 subst e2
 have HCC:=Lib.hid hce
 have HD7:=Lib.hid (HD6.out.below hb)
 have HB7:=Lib.hid (onward HB6.out (Nat.le_of_lt hgl) hb)
 have f7:=HD7.out.blk.thaw
 clear h1 h2 hb hown hce HO6 HD6 HB6 c6 hok2
 have j1:((k:Int)).toNat=k:=Int.toNat_natCast k
 have j2:¬(k:Int)<0:=by omega
 have j4:(0:Int)≤(k:Int):=by omega
 have j5:(k:Int)<4:=by omega
 go_upto_region 7 with fail
 have HSRC:=Lib.hid (show ∀j v,([.int .i64 (r 0),.int .i64 (r 1),.int .i64 (r 2)]:List Value)[j]?=some v→ w7.cell? ((⟨b2,o2,none⟩:Addr).add j)=some v from fun j v hj=>by
  have h:=HCC.out j v hj
  by_cases h0:j=0
  · subst h0;simpa [Addr.add] using h
  · simpa [Addr.add,h0] using h)
 have HTH:=Lib.hid (row_there HD7.out.blk (297+k*3) 3 (by omega))
 go_wp2_with(refine wpList_copy_cells rfl (.tmp 48) (.tmp 49) 70 70 rfl 3 Tryz.underlying70 (by kernel_rfl) g (297+k*3) 3 3 ⟨b2,o2,none⟩ 3 c' rfl rfl [.int .i64 (r 0),.int .i64 (r 1),.int .i64 (r 2)] rfl HSRC.out (fun q hq=>(HTH.out q hq).1) (fun q hq=>(HTH.out q hq).2) (by simp [Value.oneCell']) ?_)
 go_ret
 exact⟨rfl,⟨_,_,_,_,_,HD7.out.setR k hk r HW.out⟩,below_setCells (Nat.le_refl _) _ _ HB7.out⟩
end Dr
end Go.Proofs.YtljpoibnkkcjdaaGreatDoor
