import Derived.Deep.CutBlock
import Derived.Lib.Bytes
import Derived.LoopIn
import Derived.LoopNIn
import Derived.OwnWalkIn
import Derived.RangeFuncBound
import Derived.RangeFuncNested
import Derived.Shelf.RegionOpen
import Derived.Test.YtljpoibnkkcjdaaGreatDoorPc3
set_option linter.unusedVariables false
set_option linter.unusedSimpArgs false
namespace Go.Proofs.YtljpoibnkkcjdaaGreatDoor
namespace Sm
open Go.ChangeShapes Go.WideShapes Go.ChangeAt Go.RowKit Mem
def strB (bs:List Nat):ByteArray:=strOfNums (bs.map fun(x:Nat)=>(x:Int))
theorem conv_rd {w:World} {B:Nat} {A:Option Addr} {n c:Nat} {bs:List Nat} (hA:A=none→n=0) (hn:n=bs.length) (h:Rd w B 1 A n (bytesV bs)):
  (convert 58 9 (.slice A n c)).run Tryz.prog w=.ok (.string (strB bs)) w:=by
 subst hn
 by_cases h0:bs.length=0
 ·
  have hb:bs=[]:=List.eq_nil_of_length_eq_zero h0
  subst hb
  cases A with
  |none=>exact run_convert_bytes_nil w _ _ Tryz.underlying58 Tryz.underlying5 _ _ _ Tryz.underlying9
  |some a=>
   obtain⟨b,o,s⟩:=a
   cases s with
   |none=>exact run_convert_bytes_arg w _ _ Tryz.underlying58 Tryz.underlying5 b o 0 c [] rfl (fun i hi=>absurd hi (by omega)) _ Tryz.underlying9
   |some s=>
    rw [run_convert_bytes_string w _ _ _ _ _ _ Tryz.underlying58 Tryz.underlying5 Tryz.underlying9]
    have:=run_bytesToString (P:=Tryz.prog) w ⟨b,o,some s⟩ 0 c [] (by simp [loadCells,loadCellsFrom])
    exact this
 ·
  obtain⟨b,o,rfl,hb,hc⟩:=h.2 (by omega)
  refine run_convert_bytes_arg w _ _ Tryz.underlying58 Tryz.underlying5 b o bs.length c (bs.map fun(x:Nat)=>(x:Int)) (by simp) (fun i hi=>?_) _ Tryz.underlying9
  rw [hc i _ (bytesV_at bs i hi)]
  simp [List.getD,hi]
theorem ownsRow_below {w w':World} {base:Nat} {e:TypeId} {size:Nat} {v:Value} {n:Nat} {xs:List Value} (h:w.ownsRow base e size v n xs) (hb:Below w.heap.size w w'):w'.ownsRow base e size v n xs:=
 h.kept (row:=none) ⟨hb.os,hb.tape,hb.output,hb.size,fun g hg _=>hb.block g hg⟩ (by cases v.ownBlock<;>simp)
theorem own_nil {w:World} {base:Nat} {e:TypeId} {size:Nat} {A:Option Addr} {n c:Nat} {xs:List Value} (h:w.ownsRow base e size (.slice A n c) n xs):A=none→n=0∧c=0:=by
 obtain⟨A',c',hv,_,_,h4,_⟩:=own_form h
 injection hv with h1 h2 h3
 subst h1;subst h3
 exact h4
theorem own_cap {w:World} {base:Nat} {e:TypeId} {size:Nat} {A:Option Addr} {n c:Nat} {xs:List Value} (h:w.ownsRow base e size (.slice A n c) n xs):n≤c:=by
 obtain⟨A',c',hv,h2,_,h4,_⟩:=own_form h
 injection hv with h1 h2 h3
 subst h1;subst h3
 assumption
theorem conv_own {w:World} {base:Nat} {e:TypeId} {A:Option Addr} {n c:Nat} {bs:List Nat} (hn:n=bs.length) (h:w.ownsRow base e 1 (.slice A n c) n (bytesV bs)):
  (convert 58 9 (.slice A n c)).run Tryz.prog w=.ok (.string (strB bs)) w:=conv_rd (fun e=>(own_nil h e).1) hn (Rd.of_own h)
end Sm
namespace Sm
open Go.ChangeShapes Go.WideShapes Go.ChangeAt Go.RowKit Mem SumLaw
def okB (bs:List Nat):Bool:=decide (4≤bs.length)&&decide (sealed (bs.take (bs.length-4))=bs)
def OpenAt (w w':World) (bs:List Nat) (e:Ending):Prop:=
 (okB bs=true∧∃A c,e=.returned (.tuple #[.slice A (bs.length-4) c,.bool true])∧w'.ownsRow w.heap.size 5 1 (.slice A (bs.length-4) c) (bs.length-4) (bytesV (bs.take (bs.length-4)))∧Below w.heap.size w w')∨
 (okB bs=false∧e=.returned (.tuple #[.slice none 0 0,.bool false])∧Below w.heap.size w w')
def hor (t:Nat→Nat):Nat→Nat
 |0=>0
 |k+1=>hor t k*256+t (3-k)
theorem i64_or_nat (a b:Nat) (ha:a<9223372036854775808) (hb:b<9223372036854775808):bits .or .i64 (a:Int) (b:Int)=((a|||b:Nat):Int):=by
 have hx:a|||b<2 ^ 63:=Nat.or_lt_two_pow (by omega) (by omega)
 show IntKind.i64.wrap ((BitVec.ofInt 64 (a:Int)|||BitVec.ofInt 64 (b:Int)).toNat:Int)=_
 rw [BitVec.toNat_or,ofInt_u64 a (by omega),ofInt_u64 b (by omega),IntKind.wrap_i64]
 omega
theorem or_byte (q x:Nat) (hq:q<16777216) (hx:x<256):bits .or .i64 ((q:Int)*256) (x:Int)=((q*256+x:Nat):Int):=by
 have h:=i64_or_nat (q*256) x (by omega) (by omega)
 rw [show((q*256:Nat):Int)=(q:Int)*256 by omega]at h
 rw [h]
 congr 1
 have:=Nat.two_pow_add_eq_or_of_lt (i:=8) (b:=x) hx q
 rw [show(2:Nat) ^ 8=256 from rfl]at this
 rw [Nat.mul_comm q 256]
 exact this.symm
theorem hor_four (t:Nat→Nat):hor t 4=((t 3*256+t 2)*256+t 1)*256+t 0:=by simp [hor]
theorem split4 (bs:List Nat) (n:Nat) (h:bs.length=n+4):bs=bs.take n++[bs.getD n 0,bs.getD (n+1) 0,bs.getD (n+2) 0,bs.getD (n+3) 0]:=by
 conv=>lhs;rw [←List.take_append_drop n bs]
 congr 1
 apply List.ext_getElem?
 intro i
 rw [List.getElem?_drop]
 have g:∀j,n+j<bs.length→bs[n+j]?=some (bs.getD (n+j) 0):=fun j hj=>by simp [List.getD,hj]
 match i with
 |0=>rw [g 0 (by omega)];rfl
 |1=>rw [g 1 (by omega)];rfl
 |2=>rw [g 2 (by omega)];rfl
 |3=>rw [g 3 (by omega)];rfl
 |i+4=>rw [List.getElem?_eq_none (by omega)];rfl
theorem okB_is (bs:List Nat) (n s:Nat) (h:bs.length=n+4) (hb:∀x∈bs,x<256) (hs:more 0 (bs.take n)=(s:Int)) (hs2:s<4294967296):
  okB bs=decide (s=hor (fun i=>bs.getD (n+i) 0) 4):=by
 have t:∀i,i<4→bs.getD (n+i) 0<256:=fun i hi=>by
  have e:bs.getD (n+i) 0=bs[n+i]'(by omega):=by simp [List.getD,show n+i<bs.length by omega]
  rw [e];exact hb _ (List.getElem_mem _)
 have t0:=t 0 (by omega);have t1:=t 1 (by omega);have t2:=t 2 (by omega);have t3:=t 3 (by omega)
 have e4:bs.length-4=n:=by omega
 have h4:4≤bs.length:=by omega
 unfold okB
 rw [e4,decide_eq_true h4,Bool.true_and,hor_four]
 congr 1
 rw [eq_iff_iff]
 have hsp:=split4 bs n h
 unfold sealed
 rw [hs,Int.toNat_natCast,tailTo_four]
 simp only [Nat.add_zero]at t0
 constructor
 ·
  intro e
  have e':=List.append_cancel_left (e.trans hsp)
  simp only [List.cons.injEq,and_true]at e'
  obtain⟨a,b,c,d⟩:=e'
  simp only [Nat.add_zero]
  omega
 ·
  intro e
  refine Eq.trans ?_ hsp.symm
  congr 1
  simp only [Nat.add_zero]at e
  have a:s%256=bs.getD n 0:=by omega
  have b:s/256%256=bs.getD (n+1) 0:=by omega
  have c:s/65536%256=bs.getD (n+2) 0:=by omega
  have d:s/16777216%256=bs.getD (n+3) 0:=by omega
  rw [a,b,c,d]
theorem take_cells {w:World} {B:Nat} {A:Option Addr} {n m:Nat} {bs:List Nat} (h:Rd w B 1 A m (bytesV bs)) (hn:n≤m) (hm:m=bs.length):Rd w B 1 A n (bytesV (bs.take n)):=by
 subst hm
 refine⟨by simp [bytesV];omega,fun h0=>?_⟩
 obtain⟨b,o,e,hb,hc⟩:=h.2 (by omega)
 refine⟨b,o,e,hb,fun j u hu=>hc j u ?_⟩
 simp only [bytesV,List.map_take]at hu
 rw [List.getElem?_take]at hu
 split at hu
 · exact hu
 · cases hu
theorem open_any (A:Option Addr) (c:Nat) (bs:List Nat) (B:Nat) (w:World) (hB:B≤w.heap.size) (hA:A=none→c=0) (hnc:bs.length≤c) (hcm:c≤maxLen) (hc:bs.length≤140737488351232) (hbs:∀x∈bs,x<256) (hr:Rd w B 1 A bs.length (bytesV bs)):
  Calls Tryz.prog 94 #[.slice A bs.length c] w fun e w'=>OpenAt w w' bs e:=by
 have HS:=Lib.hid hbs
 have HR:=Lib.hid hr
 clear hbs hr
 by_cases h4:bs.length<4
 ·
  have HO:=Lib.hid (show okB bs=false by unfold okB;rw [decide_eq_false (by omega)];rfl)
  go_enter Tryz.func94,Tryz.ntmps94
  go_wp2_with fail
  go_ret2
  exact .inr ⟨HO.out,rfl,Below.refl _ _⟩
 ·
  obtain⟨n,hn⟩:∃n,bs.length=n+4:=⟨bs.length-4,by omega⟩
  obtain⟨b,o,rfl,hbB,hcell⟩:=HR.out.2 (by omega)
  have t:∀i,i<4→bs.getD (n+i) 0<256:=fun i hi=>by
   have e:bs.getD (n+i) 0=bs[n+i]'(by omega):=by simp [List.getD,show n+i<bs.length by omega]
   rw [e];exact HS.out _ (List.getElem_mem _)
  have hx:∀i,i<4→ w.cell? ⟨b,o+(n+i),none⟩=some (.int .u8 ((bs.getD (n+i) 0:Nat):Int)):=fun i hi=>by
   rw [hcell _ _ (bytesV_at bs (n+i) (by omega))]
   simp [List.getD,show n+i<bs.length by omega]
  have hx0:=hx 0 (by omega);have hx1:=hx 1 (by omega);have hx2:=hx 2 (by omega);have hx3:=hx 3 (by omega)
  have t0:=t 0 (by omega);have t1:=t 1 (by omega);have t2:=t 2 (by omega);have t3:=t 3 (by omega)
  clear hx t hcell
  have HK:=Lib.hid (take_cells HR.out (show n≤bs.length by omega) rfl)
  obtain⟨s,hs,hs2⟩:=more_nat (bs.take n) (fun x hx=>HS.out x (List.mem_of_mem_take hx))
  have HM:=Lib.hid hs
  have HO:=Lib.hid (okB_is bs n s hn HS.out hs hs2)
  clear hs
  generalize hT:(fun i=>bs.getD (n+i) 0)=T at HO
  have e0:bs.getD (n+0) 0=T 0:=by rw [←hT]
  have e1:bs.getD (n+1) 0=T 1:=by rw [←hT]
  have e2:bs.getD (n+2) 0=T 2:=by rw [←hT]
  have e3:bs.getD (n+3) 0=T 3:=by rw [←hT]
  rw [e0]at t0 hx0;rw [e1]at t1 hx1;rw [e2]at t2 hx2;rw [e3]at t3 hx3
  clear e0 e1 e2 e3 hT
  rw [Nat.add_zero]at hx0
  have hlen:(bs.take n).length=n:=by simp;omega
  have SC:=sum_any (some ⟨b,o,none⟩) c (bs.take n) B w hB (by omega) (fun x hx=>HS.out x (List.mem_of_mem_take hx)) (by rw [hlen];exact HK.out)
  rw [hlen,HM.out]at SC
  have HL:=Lib.hid hlen
  clear hlen
  unfold maxLen at hcm
  rw [hn]at hnc hc h4 ⊢
  go_enter Tryz.func94,Tryz.ntmps94
  go_wp2_with fail
  go_loop [5,6] (fun v i=>∃k:Nat,k≤4∧i=.int .i64 (3-(k:Int))∧v=.int .i64 ((hor T k:Nat):Int)) (fun _ i=>(intOf i+1).toNat)
  case atStart=>exact⟨0,by omega,rfl,rfl⟩
  case round=>
   obtain⟨k,hk,rfl,rfl⟩:=hrel
   obtain rfl|rfl|rfl|rfl|rfl:k=0∨k=1∨k=2∨k=3∨k=4:=by omega
   ·
    have HH:=Lib.hid (show hor T 1=hor T 0*256+T 3 from rfl)
    have hq:hor T 0<16777216:=by simp [hor]
    generalize hor T 0=q at HH hq ⊢
    have ho:=or_byte q (T 3) hq t3
    have HV:=Lib.hid ho
    clear ho
    go_wp2_with fail
    refine⟨⟨1,by omega,by rfl,by rw [HH.out];exact congrArg _ HV.out⟩,by simp [intOf]⟩
   ·
    have HH:=Lib.hid (show hor T 2=hor T 1*256+T 2 from rfl)
    have hq:hor T 1<16777216:=by simp [hor];omega
    generalize hor T 1=q at HH hq ⊢
    have ho:=or_byte q (T 2) hq t2
    have HV:=Lib.hid ho
    clear ho
    go_wp2_with fail
    refine⟨⟨2,by omega,by rfl,by rw [HH.out];exact congrArg _ HV.out⟩,by simp [intOf]⟩
   ·
    have HH:=Lib.hid (show hor T 3=hor T 2*256+T 1 from rfl)
    have hq:hor T 2<16777216:=by simp [hor];omega
    generalize hor T 2=q at HH hq ⊢
    have ho:=or_byte q (T 1) hq t1
    have HV:=Lib.hid ho
    clear ho
    go_wp2_with fail
    refine⟨⟨3,by omega,by rfl,by rw [HH.out];exact congrArg _ HV.out⟩,by simp [intOf]⟩
   ·
    have HH:=Lib.hid (show hor T 4=hor T 3*256+T 0 from rfl)
    have hq:hor T 3<16777216:=by simp [hor];omega
    generalize hor T 3=q at HH hq ⊢
    have ho:=or_byte q (T 0) hq t0
    have HV:=Lib.hid ho
    clear ho
    go_wp2_with fail
    refine⟨⟨4,by omega,by rfl,by rw [HH.out];exact congrArg _ HV.out⟩,by simp [intOf]⟩
   ·
    generalize hor T 4=q at HO ⊢
    have HO2:Hid (okB bs=decide (s=q)):=HO
    by_cases hsq:s=q
    ·
     have HO3:Hid (okB bs=true):=Lib.hid (HO2.out.trans (by simp [hsq]))
     have hne:((q:Int)!=(s:Int))=false:=by simp [hsq]
     have hne2:((q:Int)==(s:Int))=true:=by simp [hsq]
     subst hsq
     go_wp2_with(first
      |(go_at_call 57;refine SC.mono ?_;rintro e w1 ⟨rfl,hb1⟩)
      |(at_builtin;refine wpList_append_rd _ rfl (.tmp 32) (.tmp 35) 58 rfl (base:=w.heap.size) elemBytes rfl (World.ownsRow_made _ _ _ hb1.size (by unfold maxLen;omega) rfl) rfl (by simp) ((HK.out.below (hb1.mono hB)).alloc (Nat.le_trans hB hb1.size) _) (bytesV_one _) (by unfold maxLen;omega) (by omega) (Nat.le_trans hb1.size (by simp)) ?_;intro A2 c2 w2 hA2 hown2 hg2))
     simp only [List.nil_append,Nat.zero_add]at hown2
     have hb2:=Below.grown (hb1.alloc hb1.size _) hg2 (by have:=hb1.size;simp;omega) (fun g e=>by have e:some w1.heap.size=some g:=e;injection e with e;have:=hb1.size;omega)
     have HE:=Lib.hid (show bs.length-4=n by omega)
     go_ret2
     exact .inl ⟨HO3.out,A2,c2,by rw [HE.out];rfl,by rw [HE.out];exact hown2,hb2⟩
    ·
     have HO3:Hid (okB bs=false):=Lib.hid (HO2.out.trans (by simp [hsq]))
     have hne:((q:Int)!=(s:Int))=true:=by simp;omega
     clear hsq
     go_wp2_with(first
      |(go_at_call 57;refine SC.mono ?_;rintro e w1 ⟨rfl,hb1⟩))
     go_ret2
     exact .inr ⟨HO3.out,rfl,hb1⟩
end Sm
namespace Ms
open Go.ChangeShapes Go.WideShapes Go.ChangeAt Go.RowKit Mem
set_option maxHeartbeats 1000000 in
theorem right_any (k f n:Int) (A:Option Addr) (l c:Nat) (w:World) (hl:l≤140737488355328):
  Calls Tryz.prog 72 #[msgV k f n A l c] w fun e w'=>e=.returned (.int .i64 (wrong k f n l))∧Below w.heap.size w w':=by
 unfold msgV
 go_enter Tryz.func72,Tryz.ntmps72
 go_wp2_with fail
 all_goals
  go_ret
  refine⟨ret_int ?_,(Below.refl _ _).alloc (Nat.le_refl _) _⟩
  unfold wrong
  (repeat' split)<;>omega
end Ms
namespace Ms
open Go.ChangeShapes Go.WideShapes Go.ChangeAt Go.RowKit Mem
def bAt (bs:List Nat) (i:Nat):Nat:=bs.getD i 0
def valB (bs:List Nat) (o:Nat):Nat→Nat
 |0=>0
 |n+1=>valB bs o n*256+bAt bs (o+n)
theorem bAt_lt {bs:List Nat} (h:∀x∈bs,x<256) (i:Nat):bAt bs i<256:=by
 unfold bAt
 rw [List.getD_eq_getElem?_getD]
 cases e:bs[i]? with
 |none=>simp
 |some x=>exact h x (List.mem_of_getElem? e)
theorem valB_lt {bs:List Nat} (h:∀x∈bs,x<256) (o:Nat):∀n,valB bs o n<256 ^ n
 |0=>Nat.zero_lt_one
 |n+1=>by
  have h1:=valB_lt h o n
  have h2:=bAt_lt h (o+n)
  unfold valB
  rw [Nat.pow_succ]
  omega
def i64N (n:Nat):Int:=IntKind.i64.wrap (n:Int)
theorem wrap_small {x:Int} (h0:0≤x) (h1:x<9223372036854775808):IntKind.i64.wrap x=x:=by rw [IntKind.wrap_i64];omega
theorem i64N_small {n:Nat} (h:n<9223372036854775808):i64N n=(n:Int):=by unfold i64N;rw [IntKind.wrap_i64];omega
theorem or_low (X c:Nat) (hX:X<18446744073709551616) (h0:X%256=0) (hc:c<256):(BitVec.ofNat 64 X|||BitVec.ofNat 64 c).toNat=X+c:=by
 rw [BitVec.toNat_or,BitVec.toNat_ofNat,BitVec.toNat_ofNat,Nat.mod_eq_of_lt (show X<2 ^ 64 from hX),Nat.mod_eq_of_lt (show c<2 ^ 64 from Nat.lt_of_lt_of_le hc (by decide))]
 obtain⟨q,hq⟩:∃q,X=2 ^ 8*q:=⟨X/256,by omega⟩
 rw [hq,←Nat.two_pow_add_eq_or_of_lt (show c<2 ^ 8 from hc)]
theorem ofInt_mod (x:Int) (n:Nat) (h:x%18446744073709551616=(n:Int)%18446744073709551616):BitVec.ofInt 64 x=BitVec.ofNat 64 n:=by
 apply BitVec.eq_of_toNat_eq
 rw [BitVec.toNat_ofInt,BitVec.toNat_ofNat]
 have h1:x%((2 ^ 64:Nat):Int)=(n:Int)%((2 ^ 64:Nat):Int):=h
 rw [h1,←Int.natCast_emod,Int.toNat_natCast]
theorem i64_mod (x:Int):(IntKind.i64.wrap x)%18446744073709551616=x%18446744073709551616:=by rw [IntKind.wrap_i64];omega
theorem i64_same {x y:Int} (h:x%18446744073709551616=y%18446744073709551616):IntKind.i64.wrap x=IntKind.i64.wrap y:=by
 rw [IntKind.wrap_i64,IntKind.wrap_i64]
 omega
theorem i64_shl_or (V c:Nat) (hc:c<256):bits .or .i64 (IntKind.i64.wrap (i64N V*256)) (c:Int)=i64N (V*256+c):=by
 obtain⟨X,hX⟩:∃X,V*256%18446744073709551616=X:=⟨_,rfl⟩
 have hXl:X<18446744073709551616:=by rw [←hX];exact Nat.mod_lt _ (by decide)
 have hX0:X%256=0:=by omega
 have hV:=i64_mod (V:Int)
 have h1:(IntKind.i64.wrap (i64N V*256))%18446744073709551616=(X:Int)%18446744073709551616:=by
  rw [i64_mod]
  unfold i64N
  omega
 have hc1:BitVec.ofInt 64 (c:Int)=BitVec.ofNat 64 c:=ofInt_mod _ _ rfl
 show IntKind.i64.wrap ((BitVec.ofInt 64 (IntKind.i64.wrap (i64N V*256))|||BitVec.ofInt 64 (c:Int)).toNat:Nat)=_
 rw [ofInt_mod _ _ h1,hc1,or_low X c hXl hX0 hc]
 unfold i64N
 refine i64_same ?_
 omega
def decN (bs:List Nat):Nat:=bAt bs 7
def decZ (bs:List Nat) (k:Nat):List Int:=(List.range k).map fun i=>i64N (valB bs (8+8*i) 8)
theorem decZ_len (bs:List Nat) (k:Nat):(decZ bs k).length=k:=by simp [decZ]
def decE (bs:List Nat):Int:=
 if 220<bs.length then 1 else if bs.length<12∨bAt bs 0≠87 then 2 else if Sm.okB bs=false then 5 else if 24<decN bs then 6 else if bs.length≠12+8*decN bs then 2 else wrong (bAt bs 1) (bAt bs 2) (valB bs 3 4) (decN bs)
def DecAs (w w':World) (bs:List Nat) (e:Ending):Prop:=
 if decE bs=0 then ∃A c,e=.returned (.tuple #[msgV (bAt bs 1) (bAt bs 2) (valB bs 3 4) A (decN bs) c,.int .i64 0])∧w'.ownsRow w.heap.size 3 1 (.slice A (decN bs) c) (decN bs) (intsV (decZ bs (decN bs)))∧Below w.heap.size w w'
 else e=.returned (.tuple #[msgV 0 0 0 none 0 0,.int .i64 (decE bs)])∧Below w.heap.size w w'
end Ms
namespace Ms
open Go.ChangeShapes Go.WideShapes Go.ChangeAt Go.RowKit Mem Rws
theorem rd_cell1 (w:World) (v:Value) (e:TypeId):Rd (w.alloc (.cells #[v] e)) (w.heap.size+1) 1 (some ⟨w.heap.size,0,none⟩) 1 [v]:=by
 refine⟨rfl,fun _=>⟨w.heap.size,0,rfl,by omega,fun j u hu=>?_⟩⟩
 have h:=(Blk.fresh w e #[v]).cell j
 rw [Nat.zero_add,h]
 simpa using hu
theorem bytes_cells {w:World} {B:Nat} {A:Option Addr} {bs:List Nat} (h:Rd w B 1 A bs.length (Sm.bytesV bs)) (h0:0<bs.length):∃b o,A=some ⟨b,o,none⟩∧b<B∧∀j,j<bs.length→ w.cell? ⟨b,o+j,none⟩=some (.int .u8 (bAt bs j:Nat)):=by
 obtain⟨b,o,e,hb,hc⟩:=h.2 h0
 refine⟨b,o,e,hb,fun j hj=>hc j _ ?_⟩
 unfold Sm.bytesV bAt
 rw [List.getElem?_map,List.getD_eq_getElem?_getD,List.getElem?_eq_getElem hj]
 rfl
end Ms
namespace Ms
open Go.ChangeShapes Go.WideShapes Go.ChangeAt Go.RowKit Mem
set_option maxHeartbeats 1000000 in
theorem get_any (bs:List Nat) (hbs:∀x∈bs,x<256) (o n:Nat) (b q c:Nat) (w:World) (hn:n≤140737488351232) (hr:∀j,j<n→ w.cell? ⟨b,q+j,none⟩=some (.int .u8 (bAt bs (o+j):Nat))):
  Calls Tryz.prog 95 #[.slice (some ⟨b,q,none⟩) n c] w fun e w'=>e=.returned (.int .i64 (i64N (valB bs o n)))∧w=w':=by
 have HR:=Lib.hid hr
 have HS:=Lib.hid hbs
 clear hr hbs
 go_enter Tryz.func95,Tryz.ntmps95
 go_wp2_with fail
 go_loop [3,8] (fun v i=>∃k:Nat,k≤n∧i=.int .i64 k∧v=.int .i64 (i64N (valB bs o k))) (fun _ i=>n-(intOf i).toNat)
 case atStart=>exact⟨0,by omega,rfl,rfl⟩
 case round=>
  obtain⟨k,hk,rfl,rfl⟩:=hrel
  by_cases hlt:k<n
  ·
   have hc:=HR.out k hlt
   have hl0:(0:Int)≤(k:Int):=by omega
   have hl1:(k:Int)<(n:Int):=by omega
   have HV:=Lib.hid (show valB bs o (k+1)=valB bs o k*256+bAt bs (o+k)from rfl)
   have HB:=Lib.hid (bAt_lt HS.out (o+k))
   generalize bAt bs (o+k)=y at*
   have hy:y<256:=HB.out
   generalize valB bs o k=V at*
   have HO:=Lib.hid (i64_shl_or V y hy)
   obtain⟨p,hp⟩:∃p,IntKind.i64.wrap (i64N V*256)=p:=⟨_,rfl⟩
   rw [hp]at HO
   obtain⟨u,hu⟩:∃u,bits .or .i64 p (y:Int)=u:=⟨_,rfl⟩
   rw [hu]at HO
   go_wp2_with fail
   exact⟨⟨k+1,by omega,by go_num,by rw [HV.out,HO.out]⟩,by simp [intOf];omega⟩
  ·
   obtain rfl:k=n:=by omega
   clear hlt
   go_wp2_with fail
   go_ret
   exact⟨rfl,rfl⟩
end Ms
namespace Fc
open Go.RowKit
section
variable {n l : Nat} {P : Program} {ops : Array Oper} {Q : Exit → Act → World → Prop} {md : Region.Mode}
theorem wpIn_of_wp {o:Oper} {a:Act} {w:World} {K:Act→World→Prop} (hd:∀c,o.op≠ .defer c) (h:o.wp P a w K Q):o.wpIn (Fence.wide.inRound l) n P a w K Q:=by
 unfold Oper.wp at h
 unfold Oper.wpIn
 refine⟨fun _ _=>trivial,?_⟩
 rw [Oper.semAt_eq _ _ _ hd]
 generalize(execOp a.eval o).run P w=r at*
 cases r with
 |ok x w'=>
  cases x<;>simp only [Oper.upon,Oper.uponIn]at h ⊢ <;>
   first
    |exact h
    |exact h.elim
    |exact⟨fun e=>(by cases e),CallsIn.inRound l (callsIn_wide.2 h)⟩
    |exact⟨fun e=>(by cases e),fun c cs _=>let ⟨v,w',r,s⟩:=h c cs;⟨v,w',r,stepsIn_wide.2 s⟩⟩
 |halt x w'=>cases x<;>simp only [Oper.upon,Oper.uponIn]at h ⊢ <;>exact h
theorem wpOpIn_of {i:Nat} {a:Act} {w:World} {K K':Act→World→Prop} (hlo:¬LetsOut Q) (hd:∀(j:Nat) (o:Oper),ops[j]?=some o→∀c,o.op≠ .defer c) (hK:∀a w,K a w→K' a w) (h:wpOp P ops Q i K a w):wpOpIn (Fence.wide.inRound l) n P ops Q i K' a w:=by
 refine wpOpIn_mono hK ?_
 unfold wpOp at h
 unfold wpOpIn
 cases ho:ops[i]? with
 |none=>rw [ho]at h;exact h
 |some o=>
  rw [ho]at h
  simp only at h ⊢
  split
  ·
   rename_i hw
   rw [if_pos hw]at h
   exact wpIn_of_wp (hd i o ho) (h.resolve_right fun x=>hlo x.2)
  ·
   rename_i hw
   rw [if_neg hw]at h
   exact⟨fun _ _=>trivial,h⟩
theorem wpAnyIn_of (hlo:¬LetsOut Q) (hd:∀(j:Nat) (o:Oper),ops[j]?=some o→∀c,o.op≠ .defer c):∀(fuel:Nat) (listed:Array Bool) (a:Act) (w:World),wpAny P md ops Q fuel listed a w→wpAnyIn (Fence.wide.inRound l) n P md ops Q fuel listed a w
 |0,_,_,_,h=>h
 |fuel+1,_,_,_,h=>⟨h.1,fun i hi=>wpOpIn_of hlo hd (fun a' w' h'=>wpAnyIn_of hlo hd fuel _ a' w' h') (h.2 i hi)⟩
def Norm (K:Act→World→Prop):Exit→Act→World→Prop
 | .normal,a,w=>K a w
 |_,_,_=>False
theorem norm_no (K:Act→World→Prop):¬LetsOut (Norm K):=fun⟨_,_,h⟩=>h
theorem norm_imp {Q:Exit→Act→World→Prop}:∀(e:Exit) (a:Act) (w:World),Norm (Q .normal) e a w→Q e a w:=fun e a w h=>by
 cases e<;>first|exact h|exact(h:False).elim
theorem beginIn {id:Nat} {a:Act} {w:World} (reads:List Nat) (S:World→Prop) (hm:P.follows .mixedOrders=true) (hd:∀(j:Nat) (o:Oper),ops[j]?=some o→∀c,o.op≠ .defer c)
  (h:Rg.wpAnyR P .any ops (Norm (Q .normal)) reads S ops.size (Array.replicate ops.size false) a w.drew):(Code.region id ops true).wpIn (Fence.wide.inRound l) n P Q a w:=
 wpIn_mono (wpIn_region_any hm (wpAnyIn_of (norm_no _) hd _ _ _ _ (Rg.wpAny_of_R _ _ _ _ h))) norm_imp
theorem no_defer (h:ops.toList.all (fun o=>match o.op with| .defer _=>false|_=>true)=true):∀(j:Nat) (o:Oper),ops[j]?=some o→∀c,o.op≠ .defer c:=by
 intro j o ho c e
 have h1:=List.all_eq_true.1 h o (Array.mem_toList_iff.2 (Array.mem_of_getElem? ho))
 rw [e]at h1
 cases h1
end
theorem leavesM_nil {P:Program} {fn:Func} {tmps:Array Value} {R:Ending→World→Prop} {n:Nat} {w:World} (h:∃v,(results fn tmps).run P w=.ok v w∧R (.returned v) w):LeavesInM Fence.wide n P fn tmps R [] .returning w:=h
theorem out_none {P:Program} {fn:Func} {R:Ending→World→Prop} {n:Nat}:∀(e:Exit) (a:Act) (w:World),bodyPost P fn R e a w→bodyPostM Fence.wide n P fn R e a w:=fun e a w h=>by
 cases e with
 |normal=>obtain⟨hd,v,hv,hR⟩:=h;show LeavesInM Fence.wide n P fn a.tmps R a.defers .returning w;rw [hd];exact leavesM_nil ⟨v,hv,hR⟩
 |ret=>obtain⟨hd,v,hv,hR⟩:=h;show LeavesInM Fence.wide n P fn a.tmps R a.defers .returning w;rw [hd];exact leavesM_nil ⟨v,hv,hR⟩
 |panic c=>obtain⟨hd,hR⟩:=h;show LeavesInM Fence.wide n P fn a.tmps R a.defers (.panicking c) w;rw [hd];exact hR
 |outgrown=>exact h
 |exit i=>exact h
 |goto i=>exact h
theorem rangeF {α:Type} {n:Nat} {P:Program} {F:Fence} {g:Operand} {t d:Tmp} {assign body:Code} {Q:Exit→Act→World→Prop} {a:Act} {w:World}
  (hro:F.round=none) (h1:1≤n) {gf:Nat} {lb:Array Value} (hg:a.eval g=.func (.func gf) #[] lb) (hFg:F.fn gf) (eg:∀args w,(callFunc gf args).run P w=.ok (.enter gf args) w)
  (enc:α→Value) {Kp:World→World→Prop} {S Sp:List α→Prop} {N:Nat} (hseq:SeqStopsK F (n-1) P gf lb (fun x=>#[enc x]) Kp S Sp N w)
  (hKt:∀ {A B C:World},Kp A B→Kp B C→Kp A C) (hKb:∀(W:World) (l:Nat) (o o':Obj),w.heap.size≤l→W.heap[l]?=some o→o.isCells=false→o.isWalk=false→Kp W (W.putObj l o'))
  (I:List α→World→Prop) (hI:OwnFrom w.heap.size I) (h0:I [] w)
  (hassign:∀(l:Nat) (x:α) (W:World) (K:Act→World→Prop),K { tmps:=(a.tmps.setIfInBounds t (enc x)).setIfInBounds d (enc x),defers:=[] } W→
   assign.wpIn (F.inRound l) (n-1-1) P (Exit.then K (fun _ _ _=>False)) { tmps:=a.tmps.setIfInBounds t (enc x),defers:=[] } W)
  (hbody:∀(l:Nat) (pre:List α) (x:α) (W:World),I pre W→pre.length<N→body.wpIn (F.inRound l) (n-1-1) P (ownPostK Kp I (fun _ _ _=>False) (pre++[x]) W) { tmps:=(a.tmps.setIfInBounds t (enc x)).setIfInBounds d (enc x),defers:=[] } W)
  (hdone:∀(D:Nat) (xs:List α) (W:World),w.heap.size≤D→S xs→I xs W→W.heap[D]?=some (.deferred (some []))→Q .normal { a with defers:={ target:=.collected D,args:=#[] }::a.defers } W):
  (Code.rangeFunc g #[t] assign body).wpIn F n P Q a w:=
 wpIn_rangeFunc_ownF hro h1 hg hFg eg hseq hKt hKb (Below.refl _ _) (fun _=>rfl) I (fun _ _ _=>False) hI (fun _ _ _ _ _ h _ _=>h) h0 (fun x=>{ tmps:=(a.tmps.setIfInBounds t (enc x)).setIfInBounds d (enc x),defers:=[] })
  (fun l x W K hK=>by have h:=hassign l x W K hK;have e:(#[t].zip #[enc x])=#[(t,enc x)]:=(by simp);rw [e];simpa using h) hbody hdone (fun _ _ _ _ _ _ h _=>h.elim)
theorem out_one {P:Program} {fn:Func} {R:Ending→World→Prop} {n D:Nat} {tmps:Array Value} {w:World} (hK:w.heap[D]?=some (.deferred (some []))) (h:bodyPost P fn R .ret { tmps:=tmps,defers:=[] } (w.putObj D (.deferred none))):
  bodyPostM Fence.wide n P fn R .ret { tmps:=tmps,defers:=[{ target:=.collected D,args:=#[] }] } w:=by
 obtain⟨_,hv⟩:=h
 exact⟨by simp,.inl ⟨_,_,rfl,run_takeDeferred hK,hv⟩⟩
end Fc
namespace Fc
open Go.RowKit Go.Shelf
attribute [local go_sem] Oper.semAt_some
def But (g B:Nat) (W W':World):Prop:=W.heap.size≤W'.heap.size∧∀k,k<B→k≠g→W'.heap[k]?=W.heap[k]?
theorem But.refl (g B:Nat) (W:World):But g B W W:=⟨Nat.le_refl _,fun _ _ _=>rfl⟩
theorem But.trans {g B:Nat} {A C D:World} (h:But g B A C) (k:But g B C D):But g B A D:=⟨Nat.le_trans h.1 k.1,fun i hi hg=>(k.2 i hi hg).trans (h.2 i hi hg)⟩
theorem But.cell {g B:Nat} {W W':World} (h:But g B W W') {p:Addr} (hp:p.block<B) (hg:p.block≠g): W'.cell? p= W.cell? p:=by
 have e:=h.2 p.block hp hg
 unfold World.cell?
 rw [e]
theorem But.turn {g B:Nat} {w:World} (hn:B≤w.heap.size) (W:World) (l:Nat) (o o':Obj) (hl:w.heap.size≤l) (h:W.heap[l]?=some o) (_:o.isCells=false) (_:o.isWalk=false):But g B W (W.putObj l o'):=
 ⟨by have:=belowK_b (Nat.le_refl w.heap.size) W l o o' hl h ‹_› ‹_›;exact this.size,fun k hk _=>World.putObj_heap_other (by omega)⟩
theorem take_one {k i:Nat} (h:i<k):(List.finRange k).take (i+1)=(List.finRange k).take i++[⟨i,h⟩]:=by
 rw [List.take_add_one,List.getElem?_eq_getElem (by simpa using h)]
 simp
theorem take_len {k i:Nat} (h:i≤k):((List.finRange k).take i).length=i:=by simp [h]
theorem take_all (k:Nat):(List.finRange k).take k=List.finRange k:=List.take_of_length_le (by simp)
abbrev pieceV (b q:Nat) (x:Nat):Value:=.slice (some ⟨b,q+8*x,none⟩) 8 8
set_option maxRecDepth 100000 in
set_option maxHeartbeats 4000000 in
theorem chunk1_in (n:Nat) (hn:1≤n) (l Bs Bn b q k cap g B:Nat) (hk:k≤100) (hcap:8*k≤cap) (hb:b<B∧b≠g) (hBs:Bs<B∧Bs≠g) (hBn:Bn<B∧Bn≠g) (J Jx:List (Fin k)→World→Prop) (hd:∀pre W,J pre W→J pre W.drew)
  (hY:∀(pre:List (Fin k)) (x:Fin k) (W:World),J pre W→pre.length<k→YieldAt Fence.wide (n-1) Tryz.prog l #[pieceV b q x] W fun e W'=>
   (e=.returned (.bool true)∧J (pre++[x]) W'∧But g B W W')∨(e=.returned (.bool false)∧Jx (pre++[x]) W'))
  (W:World) (cs: W.cell? ⟨Bs,0,none⟩=some (.slice (some ⟨b,q,none⟩) (8*k:Nat) cap)) (cn: W.cell? ⟨Bn,0,none⟩=some (.int .i64 8)) (h0:J [] W):
  CallsIn Fence.wide n Tryz.prog 119 #[.func (.yield l) #[] #[],.pointer (some ⟨Bs,0,none⟩),.pointer (some ⟨Bn,0,none⟩)] W fun e W'=>(∃v,e=.returned v)∧
   ((∃ys,ys=List.finRange k∧J ys W')∨(∃pre,(∃i,i≤k∧pre=(List.finRange k).take i)∧Jx pre W')):=by
 refine callsIn_of_wp Tryz.func119 rfl trivial ?_ rfl
 simp only [Tryz.ntmps119,List.size_toArray,List.length_cons,List.length_nil,Nat.reduceAdd,Nat.reduceSub,Array.replicate_succ,Array.replicate_zero,List.push_toArray,List.append_toArray,List.nil_append,List.cons_append]
 gi_wp2
 gi_loopw [4] (fun iv wr=>∃i:Nat,i≤k∧iv=.int .i64 (8*i:Nat)∧J ((List.finRange k).take i) wr∧But g B W wr)
  (fun iv _=>8*k-(intOf iv).toNat)
 case atStart=>exact⟨0,Nat.zero_le _,rfl,h0,But.refl _ _ _⟩
 case round=>
  obtain⟨i,hi,rfl,hJs,hnx⟩:=hrel
  have cs':=(hnx.cell (p:=⟨Bs,0,none⟩) hBs.1 hBs.2).trans cs
  have cn':=(hnx.cell (p:=⟨Bn,0,none⟩) hBn.1 hBn.2).trans cn
  by_cases hlt:i<k
  ·
   obtain⟨fn,tmps,assign,body,hy,hR⟩:=hY _ ⟨i,hlt⟩ wr.drew (hd _ _ hJs) (by rw [take_len hi];exact hlt)
   dsimp only [pieceV]at hy
   have hlt':((8*i:Nat):Int)<((8*k:Nat):Int):=by omega
   have hge:(0:Int)≤((8*i:Nat):Int):=by omega
   have hle:((8*i:Nat):Int)≤((8*k:Nat):Int):=by omega
   gi_wp2
   gi_region
   gi_wp2
   refine hR.mono ?_
   rintro e W3 (⟨rfl,hJ3,hk3⟩|⟨rfl,hJx3⟩)
   ·
    have cn3:=(hk3.cell (p:=⟨Bn,0,none⟩) hBn.1 hBn.2).trans cn'
    gi_wp2
    go_roundw
    case rel=>exact⟨i+1,by omega,by go_num,by rw [take_one hlt];exact hJ3,hnx.trans (But.trans ⟨Nat.le_refl _,fun _ _ _=>rfl⟩ hk3)⟩
    case measure=>simp [intOf];omega
   ·
    gi_wp2
    refine bodyPost_ret (results_none rfl _ _ _) rfl ?_
    exact⟨⟨_,rfl⟩,.inr ⟨_,⟨i+1,by omega,(take_one hlt).symm⟩,hJx3⟩⟩
  ·
   obtain rfl:i=k:=by omega
   gi_wp2
   go_end0
   exact⟨⟨_,rfl⟩,.inl ⟨_,rfl,by rw [take_all]at hJs;exact hJs⟩⟩
set_option maxHeartbeats 1000000 in
theorem chunk_in (a:Option Addr) (len cap:Nat) (w:World):
  Calls Tryz.prog 96 #[.slice a len cap,.int .i64 8] w fun e w'=>e=.returned (.func (.func 119) #[] #[.pointer (some ⟨w.heap.size,0,none⟩),.pointer (some ⟨w.heap.size+1,0,none⟩)])∧w'=(w.alloc (.cells #[.slice a len cap] 58)).alloc (.cells #[.int .i64 8] 3):=by
 go_enter Tryz.func96,Tryz.ntmps96
 go_wp2_with fail
 go_ret
 exact⟨by simp,rfl⟩
theorem chunk_stops (n:Nat) (hn:1≤n) (Bs Bn b q k cap g B:Nat) (hk:k≤100) (hcap:8*k≤cap) (hb:b<B∧b≠g) (hBs:Bs<B∧Bs≠g) (hBn:Bn<B∧Bn≠g) (w:World) (hB:B≤w.heap.size)
  (cs: w.cell? ⟨Bs,0,none⟩=some (.slice (some ⟨b,q,none⟩) (8*k:Nat) cap)) (cn: w.cell? ⟨Bn,0,none⟩=some (.int .i64 8)):
  SeqStopsK Fence.wide n Tryz.prog 119 #[.pointer (some ⟨Bs,0,none⟩),.pointer (some ⟨Bn,0,none⟩)] (fun x:Fin k=>#[pieceV b q x]) (But g B) (fun ys=>ys=List.finRange k) (fun pre=>∃i,i≤k∧pre=(List.finRange k).take i) k w:=fun l J Jx W hW hJ _ hY h0=>
 chunk1_in n hn l Bs Bn b q k cap g B hk hcap hb hBs hBn J Jx (fun pre W h=>hJ pre W W.drew none h ⟨rfl,rfl,rfl,Nat.le_refl _,fun _ _ _=>rfl⟩ (fun r e=>by cases e)) hY W ((hW.cell (p:=⟨Bs,0,none⟩) (Nat.lt_of_lt_of_le hBs.1 hB)).trans cs) ((hW.cell (p:=⟨Bn,0,none⟩) (Nat.lt_of_lt_of_le hBn.1 hB)).trans cn) h0
end Fc
end Go.Proofs.YtljpoibnkkcjdaaGreatDoor
