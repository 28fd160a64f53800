import Derived.Shelf.Strconv.Itoa3
import Derived.Shelf.Strings.Split
import Derived.Test.YtljpoibnkkcjdaaGreatDoorPc29
set_option linter.unusedVariables false
set_option linter.unusedSimpArgs false
namespace Go.Proofs.YtljpoibnkkcjdaaGreatDoor
namespace Tx
open Go.RowKit Mem Sm TextLaw BigW
set_option maxHeartbeats 1000000 in
theorem fixText_any (a:Int) (w:World) (ha: -9223372036854775808≤a∧a≤9223372036854775807):
  Calls Tryz.prog 4 #[.int .i64 a] w fun e w'=>e=.returned (.string (strB (textOf a)))∧Below w.heap.size w w':=by
 have HA:=Lib.hid ha
 go_enter Tryz.func4,Tryz.ntmps4
 go_wp2_with fail
 refine(size_any a w HA.out).mono ?_
 rintro e w' ⟨rfl,rfl⟩
 obtain⟨u,hu⟩:∃u:Nat,u=a.natAbs:=⟨_,rfl⟩
 rw [←hu]
 have hul:u<18446744073709551616:=by have:=HA.out;omega
 have HU:=Lib.hid hu
 clear hu ha
 obtain⟨bL,hbL⟩:∃bL,bL=(if a<0 then [45]else []:List Nat):=⟨_,rfl⟩
 have HBL:=Lib.hid hbL
 have hbl:bL.length≤1:=by rw [hbL];split<;>simp
 obtain⟨W,hW⟩:∃W,W=u/4294967296:=⟨_,rfl⟩
 have hdiv:(u:Int)/4294967296=(W:Int):=by omega
 have hWl:W<4294967296:=by omega
 have HW:=Lib.hid hW
 clear hW
 by_cases hneg:a<0
 ·
  go_upto_region 5 with(at_builtin;refine wpList_append_rd _ rfl (.tmp 13) (.tmp 14) 58 rfl elemBytes rfl (World.ownsRow_nil _ w.heap.size _ _) rfl (by simp) (rd_one _ _ _) (by simp [Value.oneCell']) (by unfold maxLen;omega) (by omega) (by simp) ?_;intro A1 c1 w1 hA1 hown1 hg1)
  rw [if_pos hneg]at hbL
  have hob:OwnB w.heap.size w1 (.slice A1 (0+1) c1) bL:=⟨A1,c1,by rw [hbL];rfl,by rw [hbL];exact hown1⟩
  have HOB:=Lib.hid hob
  have HB1:=Lib.hid (Below.grown ((Below.refl w.heap.size w).alloc (Nat.le_refl _) (.cells #[.int .u8 45] 5)) hg1 (by simp) (fun g e=>by cases e))
  generalize(Value.slice A1 (0+1) c1)=vb at*
  clear hown1 hg1 hA1 hob hbL hneg
  go_upto_region 7 with fail
  go_loopw [5,6] (fun wh d wr=>∃(q:Nat) (ds:List Nat),wh=.int .u64 (q:Int)∧OwnB w1.heap.size wr d (ch ds)∧(q=W∧ds=[]∨ds≠[]∧top q++ds.reverse=dec W)∧ds.length+q≤W+1∧Below w1.heap.size w1 wr) (fun wh d _=>2*(intOf wh).toNat+(match d with| .slice _ n _=>if n=0 then 1 else 0|_=>0))
  case atStart=>exact⟨W,[],rfl,⟨none,0,rfl,World.ownsRow_nil _ _ _ _⟩,.inl ⟨rfl,rfl⟩,by simp,Below.refl _ _⟩
  case round=>
   obtain⟨q,ds,rfl,⟨A2,c2,rfl,hown⟩,hcase,hlen,hb2⟩:=hrel
   have hsz2:=hb2.size
   have HC:=Lib.hid hcase
   rw [ch_length]at hown ⊢
   have HO:=Lib.hid hown
   by_cases hgo:0<q∨ds.length=0
   ·
    have e1:(q:Int)%10=((q%10:Nat):Int):=by omega
    have e2:(q:Int)/10=((q/10:Nat):Int):=by omega
    have hd9:q%10<10:=Nat.mod_lt _ (by omega)
    have hq10:q/10≤q:=Nat.div_le_self _ _
    have HL:=Lib.hid (show(ds++[q%10]).length+q/10≤W+1∧(0<q→q/10<q)∧(q=0→q/10=0)by rw [List.length_append,List.length_singleton];omega)
    have HN:=Lib.hid (show ds++[q%10]≠[]∧top (q/10)++(ds++[q%10]).reverse=dec W by
     refine⟨by simp,?_⟩
     rw [List.reverse_append,List.reverse_singleton,←List.append_assoc]
     rcases HC.out with⟨h1,h2⟩|⟨h1,h2⟩
     · rw [dec_top,h1,h2,List.reverse_nil,List.append_nil]
     ·
      rcases hgo with h3|h3
      · rw [top_step h3,h2]
      · exact absurd (List.eq_nil_of_length_eq_zero h3) h1)
    generalize hx:q%10=x at e1 hd9 HL HN
    have HX:=Lib.hid hx
    clear hx hcase hown
    generalize hy:q/10=y at e2 hq10 HL HN
    have HY:=Lib.hid hy
    clear hy
    have hwy:IntKind.u64.wrap (y:Int)=(y:Int):=by rw [u64wrap];omega
    have hlw:ds.length≤4294967296:=by omega
    have HLN:=Lib.hid hlen
    clear hlen
    have HCH:=Lib.hid (show ch (ds++[x])=ch ds++[x+48]from ch_append _ _)
    have hgo2:(0:Int)<(q:Int)∨(¬(0:Int)<(q:Int)∧((ds.length:Int)==0)=true):=by
     rcases hgo with h|h
     · left;omega
     ·
      by_cases h0:(0:Int)<(q:Int)
      · exact .inl h0
      · exact .inr ⟨h0,by rw [beq_iff_eq];omega⟩
    have HGO:=Lib.hid hgo2
    clear hgo
    rcases hgo2 with hq|⟨hq,hds⟩
    ·
     skip
     go_wp2_with(at_builtin;refine wpList_append_rd _ rfl (.tmp 25) (.tmp 30) 58 rfl elemBytes rfl (HO.out.alloc _) rfl (by simp) (rd_one _ _ _) (by simp [Value.oneCell']) (by unfold maxLen;omega) (by omega) (by simp;omega) ?_;intro A3 c3 w3 hA3 hown3 hg3;have HO3:=Lib.hid hown3;have HB3:=Lib.hid (Below.grown (hb2.alloc (by omega) (.cells #[.int .u8 (48+(x:Int))] 5)) hg3 (by simp;omega) (fun g e=>(HO.out.lt g e).1));clear hown3 hg3 hA3)
     refine⟨⟨y,ds++[x],rfl,⟨A3,c3,by rw [ch_length,List.length_append];rfl,?_⟩,.inr HN.out,HL.out.1,HB3.out⟩,?_⟩
     ·
      rw [HCH.out,bytesV_append,List.length_append,ch_length]
      simpa [bytesV,Int.add_comm] using HO3.out
     ·
      have h1:=HL.out
      have h2:=HGO.out
      rw [beq_iff_eq]at h2
      simp only [intOf,Int.toNat_natCast]
      rw [if_neg (show ¬ds.length+1=0 by omega)]
      split<;>omega
    ·
     obtain rfl:q=0:=by omega
     obtain rfl:x=0:=HX.out.symm
     obtain rfl:y=0:=HY.out.symm
     clear e1 e2 hwy hq
     go_wp2_with(at_builtin;refine wpList_append_rd _ rfl (.tmp 25) (.tmp 30) 58 rfl elemBytes rfl (HO.out.alloc _) rfl (by simp) (rd_one _ _ _) (by simp [Value.oneCell']) (by unfold maxLen;omega) (by omega) (by simp;omega) ?_;intro A3 c3 w3 hA3 hown3 hg3;have HO3:=Lib.hid hown3;have HB3:=Lib.hid (Below.grown (hb2.alloc (by omega) (.cells #[.int .u8 (48)] 5)) hg3 (by simp;omega) (fun g e=>(HO.out.lt g e).1));clear hown3 hg3 hA3)
     refine⟨⟨0,ds++[0],rfl,⟨A3,c3,by rw [ch_length,List.length_append];rfl,?_⟩,.inr HN.out,HL.out.1,HB3.out⟩,?_⟩
     ·
      rw [HCH.out,bytesV_append,List.length_append,ch_length]
      simpa [bytesV,Int.add_comm] using HO3.out
     ·
      have h1:=HL.out
      have h2:ds.length=0:=by have:=hds;rw [beq_iff_eq]at this;omega
      simp only [intOf,Int.toNat_natCast]
      rw [if_pos h2,if_neg (by omega)];omega
   ·
    have hq0:q=0:=by omega
    have hq:¬(0:Int)<(q:Int):=by omega
    have hds:((ds.length:Int)==0)=false:=by rw [beq_eq_false_iff_ne];omega
    have hpos:0<ds.length:=by omega
    have HD:=Lib.hid (show ds.reverse=dec W by
     rcases hcase with⟨h1,h2⟩|⟨h1,h2⟩
     · rw [h2]at hpos;simp at hpos
     · rw [←h2,hq0];rfl)
    have HSM:=Lib.hid (show ∀x∈ds,x<10 from fun x hx=>dec_small W x (by rw [←HD.out];exact List.mem_reverse.2 hx))
    have hlw:ds.length≤4294967296:=by omega
    clear hcase hgo hlen hown hq0
    go_upto_region 11 with fail
    have HO1:=Lib.hid (show OwnB w1.heap.size wr (.slice A2 ds.length c2) (ch ds)from⟨A2,c2,by rw [ch_length],by rw [ch_length];exact HO.out⟩)
    have HBW:=Lib.hid (onward HB1.out (Nat.le_refl _) hb2)
    have HOV:=Lib.hid (ownB_below HOB.out hb2)
    have HNE:=Lib.hid (show(Value.slice A2 ds.length c2).ownBlock=none∨(Value.slice A2 ds.length c2).ownBlock≠vb.ownBlock by
     rcases hv:(Value.slice A2 ds.length c2).ownBlock with _|g
     · exact .inl rfl
     ·
      right
      intro e
      obtain⟨A9,c9,e9,h9⟩:=HOB.out
      have h1:=(HO.out.lt g hv).1
      rw [e9]at e
      have h2:=(h9.lt g e.symm).2
      omega)
    clear hq
    generalize wr=w2 at*
    go_loopw [3,7] (fun v i wr=>∃k:Nat,k≤ds.length∧i=.int .i64 ((k:Int)-1)∧OwnB w.heap.size wr v (bL++ch (ds.drop k).reverse)∧wr.ownsRow w1.heap.size 5 1 (.slice A2 ds.length c2) ds.length (bytesV (ch ds))∧((Value.slice A2 ds.length c2).ownBlock=none∨(Value.slice A2 ds.length c2).ownBlock≠v.ownBlock)∧Below w.heap.size w wr) (fun _ i _=>(intOf i+1).toNat)
    case atStart=>exact⟨ds.length,Nat.le_refl _,rfl,by rw [List.drop_length,List.reverse_nil];simpa [ch] using HOV.out,HO.out,HNE.out,HBW.out⟩
    case round=>
     obtain⟨k,hk,rfl,⟨A4,c4,rfl,hov⟩,hod,hne,hbw⟩:=hrel
     have hszw:=hbw.size
     have HOV:=Lib.hid hov
     have HOD:=Lib.hid hod
     have HNE:=Lib.hid hne
     by_cases hpos:0<k
     ·
      obtain⟨j,rfl⟩:∃j,k=j+1:=⟨k-1,by omega⟩
      have e3:((j+1:Nat):Int)-1=(j:Int):=by omega
      rw [e3]
      have hj:j<ds.length:=by omega
      obtain⟨b,o,u1,rfl,hb1,hu1,hcell⟩:=(Rd.of_own HOD.out).at hj
      rw [bytesV_at _ _ (by rw [ch_length];exact hj)]at hu1
      obtain rfl:(Value.int .u8 (((ch ds)[j]'(by rw [ch_length];exact hj):Nat):Int))=u1:=by injection hu1
      obtain⟨y,hy⟩:∃y,y=ds[j]+48:=⟨_,rfl⟩
      have hy2:(ch ds)[j]'(by rw [ch_length];exact hj)=y:=by rw [hy];simp [ch]
      rw [hy2]at hcell
      have HY:=Lib.hid (show(ds.drop j).reverse=(ds.drop (j+1)).reverse++[ds[j]]by rw [List.drop_eq_getElem_cons hj,List.reverse_cons])
      have HY2:=Lib.hid (show ch (ds.drop j).reverse=ch (ds.drop (j+1)).reverse++[y]by rw [HY.out,ch_append,hy];rfl)
      have hyl:y<256:=by have:=HSM.out ds[j] (List.getElem_mem hj);omega
      have HLL:=Lib.hid (show(bL++ch (ds.drop (j+1)).reverse).length≤4294967299 by simp [ch];omega)
      clear hy hy2 hu1 hov hod hne hpos e3
      have hjn:(j:Int)<(ds.length:Int):=by omega
      have hj0:(0:Int)≤(j:Int):=by omega
      go_wp2_with(at_builtin;refine wpList_append_at _ rfl (.tmp 41) (.tmp 46) 58 rfl w.heap.size elemBytes rfl (HOV.out.alloc _) rfl (rd_single _ _ _) (by omega) (by simp [Value.oneCell']) (by have:=HLL.out;unfold maxLen;omega) (by have:=HLL.out;omega) (by simp;omega) ?_;intro v5 w5 hown5 hg5 ho5;have HO5:=Lib.hid hown5;have HG5:=Lib.hid hg5;have HV5:=Lib.hid ho5;clear hown5 hg5 ho5)
      obtain⟨A6,c6,e6,_⟩:=own_form HO5.out
      have hd6:((Value.slice (some ⟨b,o,none⟩) ds.length c2).ownBlock=none∨(Value.slice (some ⟨b,o,none⟩) ds.length c2).ownBlock≠v5.ownBlock):=own_after (HOD.out.alloc _) HNE.out HV5.out
      have hw6:w5.ownsRow w1.heap.size 5 1 (.slice (some ⟨b,o,none⟩) ds.length c2) ds.length (bytesV (ch ds)):=(HOD.out.alloc _).kept HG5.out HNE.out
      have hb6:Below w.heap.size w w5:=Below.grown (hbw.alloc hszw (.cells #[.int .u8 (y:Int)] 5)) HG5.out (by simp;omega) (fun g e=>(HOV.out.lt g e).1)
      have hn6:(bL++ch (ds.drop j).reverse).length=(bL++ch (ds.drop (j+1)).reverse).length+1:=by rw [HY2.out,←List.append_assoc,List.length_append];rfl
      subst e6
      refine⟨⟨j,by omega,rfl,⟨A6,c6,by rw [hn6],?_⟩,hw6,hd6,hb6⟩,by simp [intOf]⟩
      rw [hn6,HY2.out,←List.append_assoc,bytesV_append]
      exact HO5.out
     ·
      obtain rfl:k=0:=by omega
      rw [List.drop_zero,HD.out]at hov HOV ⊢
      rw [show((0:Nat):Int)-1= -1 from rfl]
      have HBW2:=Lib.hid hbw
      clear hov hod hne hpos HOD HNE
      generalize wr=w3 at*
      obtain⟨cs,hcs⟩:∃cs,cs=bL++ch (dec W):=⟨_,rfl⟩
      rw [←hcs]at HOV ⊢
      have hcl:cs.length≤4294967298:=by have:=dec_length_le W;rw [hcs];simp [ch];omega
      obtain⟨p,hp⟩:∃p,p=u%4294967296:=⟨_,rfl⟩
      have hmask:bits .and .u64 (u:Int) 4294967295=(p:Int):=by rw [hp];exact maskN u hul
      have hpl:p<4294967296:=by omega
      have HT:=Lib.hid (show textOf a=cs++(if p=0 then []else 46::ch (frT 32 p))by
       unfold textOf
       rw [←HU.out,hcs,hp,HBL.out,HW.out,List.append_assoc];rfl)
      have HP:=Lib.hid hp
      clear hcs hp
      by_cases hp0:0<p
      ·
       have hne0:¬p=0:=by omega
       have HT2:=Lib.hid (show(cs++[46])++ch (frT 32 p)=textOf a by rw [HT.out,if_neg hne0,List.append_assoc];rfl)
       go_upto_region 17 with(at_builtin;refine wpList_append_rd _ rfl (.tmp 52) (.tmp 53) 58 rfl elemBytes rfl (HOV.out.alloc _) rfl (by simp) (rd_one _ _ _) (by simp [Value.oneCell']) (by unfold maxLen;omega) (by omega) (by simp;omega) ?_;intro A7 c7 w4 hA7 hown7 hg7;have HO7:=Lib.hid (show OwnB w.heap.size w4 (.slice A7 (cs.length+1) c7) (cs++[46])from⟨A7,c7,by rw [List.length_append];rfl,by rw [bytesV_append,List.length_append];exact hown7⟩);have HB7:=Lib.hid (Below.grown (hbw.alloc hszw (.cells #[.int .u8 46] 5)) hg7 (by simp;omega) (fun g e=>(HOV.out.lt g e).1));clear hown7 hg7 hA7)
       go_loopw [3,8] (fun v pv wr=>∃(k r:Nat) (xs:List Nat),k≤32∧TextLaw.Ends k r∧pv=.int .u64 (r:Int)∧OwnB w.heap.size wr v xs∧xs++ch (frT k r)=textOf a∧xs.length+k≤5000000000∧Below w.heap.size w wr∧(0<r→0<k)) (fun v _ _=>5000000001-(match v with| .slice _ n _=>n|_=>0))
       case atStart=>exact⟨32,p,cs++[46],Nat.le_refl _,ends_all hpl,rfl,HO7.out,HT2.out,by rw [List.length_append,List.length_singleton];omega,HB7.out,fun _=>by omega⟩
       case round=>
        obtain⟨k,r,xs,hk,he,rfl,⟨A5,c5,rfl,hov⟩,hT,hxl,hb5,hkr⟩:=hrel
        have hsz5:=hb5.size
        have HOV5:=Lib.hid hov
        have HT5:=Lib.hid hT
        have HE:=Lib.hid he
        clear hov hT
        by_cases hr:0<r
        ·
         obtain⟨j,rfl⟩:∃j,k=j+1:=⟨k-1,by have:=hkr hr;omega⟩
         have hrl:=he.1
         obtain⟨m,hm⟩:∃m,m=10*r:=⟨_,rfl⟩
         have e1:(r:Int)*10=(m:Int):=by omega
         have hml:m<42949672960:=by omega
         have e2:(m:Int)/4294967296=((m/4294967296:Nat):Int):=by omega
         have hd9:m/4294967296<10:=by omega
         have hmask2:=maskN m (by omega)
         have HS:=Lib.hid (he.step (by omega))
         have HF:=Lib.hid (show ch (frT (j+1) r)=[m/4294967296+48]++ch (frT j (m%4294967296))by rw [frT_step hr,hm];rfl)
         rw [←hm]at HS
         have HJ:=Lib.hid (show 0<m%4294967296→0<j from fun h=>by
          rcases Nat.eq_zero_or_pos j with h0|h0
          ·
           have h2:=HS.out
           rw [h0]at h2
           have:=h2.zero
           omega
          · exact h0)
         generalize m/4294967296=x at e2 hd9 HF
         generalize m%4294967296=y at hmask2 HS HF HJ
         clear hm he hkr
         go_wp2_with(at_builtin;refine wpList_append_rd _ rfl (.tmp 59) (.tmp 64) 58 rfl elemBytes rfl (HOV5.out.alloc _) rfl (by simp) (rd_one _ _ _) (by simp [Value.oneCell']) (by unfold maxLen;omega) (by omega) (by simp;omega) ?_;intro A3 c3 w3 hA3 hown3 hg3;have HO3:=Lib.hid hown3;have HB3:=Lib.hid (Below.grown (hb5.alloc (by omega) (.cells #[.int .u8 (48+(x:Int))] 5)) hg3 (by simp;omega) (fun g e=>(HOV5.out.lt g e).1));clear hown3 hg3 hA3)
         refine⟨⟨j,y,xs++[x+48],by omega,HS.out,rfl,⟨A3,c3,by rw [List.length_append];rfl,?_⟩,by rw [List.append_assoc,←HF.out];exact HT5.out,by rw [List.length_append,List.length_singleton];omega,HB3.out,HJ.out⟩,?_⟩
         ·
          rw [bytesV_append,List.length_append]
          simpa [bytesV,Int.add_comm] using HO3.out
         ·
          show _-(xs.length+1)<_-xs.length
          omega
        ·
         have hr0:r=0:=by omega
         have HT6:=Lib.hid (show xs=textOf a by have h:=HT5.out;rw [hr0,frT_zero]at h;simpa [ch] using h)
         have hcv:=conv_own rfl HOV5.out
         clear hr hkr he
         go_wp2_with fail
         go_ret
         exact⟨by rw [HT6.out];rfl,hb5⟩
      ·
       have hp1:p=0:=by omega
       have HT2:=Lib.hid (show cs++ch (frT 32 p)=textOf a by rw [HT.out,if_pos hp1,hp1,frT_zero];rfl)
       clear hp1
       go_upto_region 17 with fail
       go_loopw [3,8] (fun v pv wr=>∃(k r:Nat) (xs:List Nat),k≤32∧TextLaw.Ends k r∧pv=.int .u64 (r:Int)∧OwnB w.heap.size wr v xs∧xs++ch (frT k r)=textOf a∧xs.length+k≤5000000000∧Below w.heap.size w wr∧(0<r→0<k)) (fun v _ _=>5000000001-(match v with| .slice _ n _=>n|_=>0))
       case atStart=>exact⟨32,p,cs,Nat.le_refl _,ends_all hpl,rfl,⟨A4,c4,rfl,HOV.out⟩,HT2.out,by omega,HBW2.out,fun _=>by omega⟩
       case round=>
        obtain⟨k,r,xs,hk,he,rfl,⟨A5,c5,rfl,hov⟩,hT,hxl,hb5,hkr⟩:=hrel
        have hsz5:=hb5.size
        have HOV5:=Lib.hid hov
        have HT5:=Lib.hid hT
        have HE:=Lib.hid he
        clear hov hT
        by_cases hr:0<r
        ·
         obtain⟨j,rfl⟩:∃j,k=j+1:=⟨k-1,by have:=hkr hr;omega⟩
         have hrl:=he.1
         obtain⟨m,hm⟩:∃m,m=10*r:=⟨_,rfl⟩
         have e1:(r:Int)*10=(m:Int):=by omega
         have hml:m<42949672960:=by omega
         have e2:(m:Int)/4294967296=((m/4294967296:Nat):Int):=by omega
         have hd9:m/4294967296<10:=by omega
         have hmask2:=maskN m (by omega)
         have HS:=Lib.hid (he.step (by omega))
         have HF:=Lib.hid (show ch (frT (j+1) r)=[m/4294967296+48]++ch (frT j (m%4294967296))by rw [frT_step hr,hm];rfl)
         rw [←hm]at HS
         have HJ:=Lib.hid (show 0<m%4294967296→0<j from fun h=>by
          rcases Nat.eq_zero_or_pos j with h0|h0
          ·
           have h2:=HS.out
           rw [h0]at h2
           have:=h2.zero
           omega
          · exact h0)
         generalize m/4294967296=x at e2 hd9 HF
         generalize m%4294967296=y at hmask2 HS HF HJ
         clear hm he hkr
         go_wp2_with(at_builtin;refine wpList_append_rd _ rfl (.tmp 59) (.tmp 64) 58 rfl elemBytes rfl (HOV5.out.alloc _) rfl (by simp) (rd_one _ _ _) (by simp [Value.oneCell']) (by unfold maxLen;omega) (by omega) (by simp;omega) ?_;intro A3 c3 w3 hA3 hown3 hg3;have HO3:=Lib.hid hown3;have HB3:=Lib.hid (Below.grown (hb5.alloc (by omega) (.cells #[.int .u8 (48+(x:Int))] 5)) hg3 (by simp;omega) (fun g e=>(HOV5.out.lt g e).1));clear hown3 hg3 hA3)
         refine⟨⟨j,y,xs++[x+48],by omega,HS.out,rfl,⟨A3,c3,by rw [List.length_append];rfl,?_⟩,by rw [List.append_assoc,←HF.out];exact HT5.out,by rw [List.length_append,List.length_singleton];omega,HB3.out,HJ.out⟩,?_⟩
         ·
          rw [bytesV_append,List.length_append]
          simpa [bytesV,Int.add_comm] using HO3.out
         ·
          show _-(xs.length+1)<_-xs.length
          omega
        ·
         have hr0:r=0:=by omega
         have HT6:=Lib.hid (show xs=textOf a by have h:=HT5.out;rw [hr0,frT_zero]at h;simpa [ch] using h)
         have hcv:=conv_own rfl HOV5.out
         clear hr hkr he
         go_wp2_with fail
         go_ret
         exact⟨by rw [HT6.out];rfl,hb5⟩
 ·
  go_upto_region 5 with fail
  rw [if_neg (by omega)]at hbL
  have HOB:=Lib.hid (show OwnB w.heap.size w (.slice none 0 0) bL from⟨none,0,by rw [hbL];rfl,by rw [hbL];exact World.ownsRow_nil _ _ _ _⟩)
  have HB1:=Lib.hid (Below.refl w.heap.size w)
  clear hbL hneg
  go_upto_region 7 with fail
  go_loopw [5,6] (fun wh d wr=>∃(q:Nat) (ds:List Nat),wh=.int .u64 (q:Int)∧OwnB w.heap.size wr d (ch ds)∧(q=W∧ds=[]∨ds≠[]∧top q++ds.reverse=dec W)∧ds.length+q≤W+1∧Below w.heap.size w wr) (fun wh d _=>2*(intOf wh).toNat+(match d with| .slice _ n _=>if n=0 then 1 else 0|_=>0))
  case atStart=>exact⟨W,[],rfl,⟨none,0,rfl,World.ownsRow_nil _ _ _ _⟩,.inl ⟨rfl,rfl⟩,by simp,Below.refl _ _⟩
  case round=>
   obtain⟨q,ds,rfl,⟨A2,c2,rfl,hown⟩,hcase,hlen,hb2⟩:=hrel
   have hsz2:=hb2.size
   have HC:=Lib.hid hcase
   rw [ch_length]at hown ⊢
   have HO:=Lib.hid hown
   by_cases hgo:0<q∨ds.length=0
   ·
    have e1:(q:Int)%10=((q%10:Nat):Int):=by omega
    have e2:(q:Int)/10=((q/10:Nat):Int):=by omega
    have hd9:q%10<10:=Nat.mod_lt _ (by omega)
    have hq10:q/10≤q:=Nat.div_le_self _ _
    have HL:=Lib.hid (show(ds++[q%10]).length+q/10≤W+1∧(0<q→q/10<q)∧(q=0→q/10=0)by rw [List.length_append,List.length_singleton];omega)
    have HN:=Lib.hid (show ds++[q%10]≠[]∧top (q/10)++(ds++[q%10]).reverse=dec W by
     refine⟨by simp,?_⟩
     rw [List.reverse_append,List.reverse_singleton,←List.append_assoc]
     rcases HC.out with⟨h1,h2⟩|⟨h1,h2⟩
     · rw [dec_top,h1,h2,List.reverse_nil,List.append_nil]
     ·
      rcases hgo with h3|h3
      · rw [top_step h3,h2]
      · exact absurd (List.eq_nil_of_length_eq_zero h3) h1)
    generalize hx:q%10=x at e1 hd9 HL HN
    have HX:=Lib.hid hx
    clear hx hcase hown
    generalize hy:q/10=y at e2 hq10 HL HN
    have HY:=Lib.hid hy
    clear hy
    have hwy:IntKind.u64.wrap (y:Int)=(y:Int):=by rw [u64wrap];omega
    have hlw:ds.length≤4294967296:=by omega
    have HLN:=Lib.hid hlen
    clear hlen
    have HCH:=Lib.hid (show ch (ds++[x])=ch ds++[x+48]from ch_append _ _)
    have hgo2:(0:Int)<(q:Int)∨(¬(0:Int)<(q:Int)∧((ds.length:Int)==0)=true):=by
     rcases hgo with h|h
     · left;omega
     ·
      by_cases h0:(0:Int)<(q:Int)
      · exact .inl h0
      · exact .inr ⟨h0,by rw [beq_iff_eq];omega⟩
    have HGO:=Lib.hid hgo2
    clear hgo
    rcases hgo2 with hq|⟨hq,hds⟩
    ·
     skip
     go_wp2_with(at_builtin;refine wpList_append_rd _ rfl (.tmp 25) (.tmp 30) 58 rfl elemBytes rfl (HO.out.alloc _) rfl (by simp) (rd_one _ _ _) (by simp [Value.oneCell']) (by unfold maxLen;omega) (by omega) (by simp;omega) ?_;intro A3 c3 w3 hA3 hown3 hg3;have HO3:=Lib.hid hown3;have HB3:=Lib.hid (Below.grown (hb2.alloc (by omega) (.cells #[.int .u8 (48+(x:Int))] 5)) hg3 (by simp;omega) (fun g e=>(HO.out.lt g e).1));clear hown3 hg3 hA3)
     refine⟨⟨y,ds++[x],rfl,⟨A3,c3,by rw [ch_length,List.length_append];rfl,?_⟩,.inr HN.out,HL.out.1,HB3.out⟩,?_⟩
     ·
      rw [HCH.out,bytesV_append,List.length_append,ch_length]
      simpa [bytesV,Int.add_comm] using HO3.out
     ·
      have h1:=HL.out
      have h2:=HGO.out
      rw [beq_iff_eq]at h2
      simp only [intOf,Int.toNat_natCast]
      rw [if_neg (show ¬ds.length+1=0 by omega)]
      split<;>omega
    ·
     obtain rfl:q=0:=by omega
     obtain rfl:x=0:=HX.out.symm
     obtain rfl:y=0:=HY.out.symm
     clear e1 e2 hwy hq
     go_wp2_with(at_builtin;refine wpList_append_rd _ rfl (.tmp 25) (.tmp 30) 58 rfl elemBytes rfl (HO.out.alloc _) rfl (by simp) (rd_one _ _ _) (by simp [Value.oneCell']) (by unfold maxLen;omega) (by omega) (by simp;omega) ?_;intro A3 c3 w3 hA3 hown3 hg3;have HO3:=Lib.hid hown3;have HB3:=Lib.hid (Below.grown (hb2.alloc (by omega) (.cells #[.int .u8 (48)] 5)) hg3 (by simp;omega) (fun g e=>(HO.out.lt g e).1));clear hown3 hg3 hA3)
     refine⟨⟨0,ds++[0],rfl,⟨A3,c3,by rw [ch_length,List.length_append];rfl,?_⟩,.inr HN.out,HL.out.1,HB3.out⟩,?_⟩
     ·
      rw [HCH.out,bytesV_append,List.length_append,ch_length]
      simpa [bytesV,Int.add_comm] using HO3.out
     ·
      have h1:=HL.out
      have h2:ds.length=0:=by have:=hds;rw [beq_iff_eq]at this;omega
      simp only [intOf,Int.toNat_natCast]
      rw [if_pos h2,if_neg (by omega)];omega
   ·
    have hq0:q=0:=by omega
    have hq:¬(0:Int)<(q:Int):=by omega
    have hds:((ds.length:Int)==0)=false:=by rw [beq_eq_false_iff_ne];omega
    have hpos:0<ds.length:=by omega
    have HD:=Lib.hid (show ds.reverse=dec W by
     rcases hcase with⟨h1,h2⟩|⟨h1,h2⟩
     · rw [h2]at hpos;simp at hpos
     · rw [←h2,hq0];rfl)
    have HSM:=Lib.hid (show ∀x∈ds,x<10 from fun x hx=>dec_small W x (by rw [←HD.out];exact List.mem_reverse.2 hx))
    have hlw:ds.length≤4294967296:=by omega
    clear hcase hgo hlen hown hq0
    go_upto_region 11 with fail
    have HO1:=Lib.hid (show OwnB w.heap.size wr (.slice A2 ds.length c2) (ch ds)from⟨A2,c2,by rw [ch_length],by rw [ch_length];exact HO.out⟩)
    have HBW:=Lib.hid (onward HB1.out (Nat.le_refl _) hb2)
    have HOV:=Lib.hid (ownB_below HOB.out hb2)
    have HNE:=Lib.hid (show(Value.slice A2 ds.length c2).ownBlock=none∨(Value.slice A2 ds.length c2).ownBlock≠(Value.slice none 0 0).ownBlock by
     rcases hv:(Value.slice A2 ds.length c2).ownBlock with _|g
     · exact .inl rfl
     ·
      right
      intro e
      obtain⟨A9,c9,e9,h9⟩:=HOB.out
      have h1:=(HO.out.lt g hv).1
      rw [e9]at e
      have h2:=(h9.lt g e.symm).2
      omega)
    clear hq
    generalize wr=w2 at*
    go_loopw [3,7] (fun v i wr=>∃k:Nat,k≤ds.length∧i=.int .i64 ((k:Int)-1)∧OwnB w.heap.size wr v (bL++ch (ds.drop k).reverse)∧wr.ownsRow w.heap.size 5 1 (.slice A2 ds.length c2) ds.length (bytesV (ch ds))∧((Value.slice A2 ds.length c2).ownBlock=none∨(Value.slice A2 ds.length c2).ownBlock≠v.ownBlock)∧Below w.heap.size w wr) (fun _ i _=>(intOf i+1).toNat)
    case atStart=>exact⟨ds.length,Nat.le_refl _,rfl,by rw [List.drop_length,List.reverse_nil];simpa [ch] using HOV.out,HO.out,HNE.out,HBW.out⟩
    case round=>
     obtain⟨k,hk,rfl,⟨A4,c4,rfl,hov⟩,hod,hne,hbw⟩:=hrel
     have hszw:=hbw.size
     have HOV:=Lib.hid hov
     have HOD:=Lib.hid hod
     have HNE:=Lib.hid hne
     by_cases hpos:0<k
     ·
      obtain⟨j,rfl⟩:∃j,k=j+1:=⟨k-1,by omega⟩
      have e3:((j+1:Nat):Int)-1=(j:Int):=by omega
      rw [e3]
      have hj:j<ds.length:=by omega
      obtain⟨b,o,u1,rfl,hb1,hu1,hcell⟩:=(Rd.of_own HOD.out).at hj
      rw [bytesV_at _ _ (by rw [ch_length];exact hj)]at hu1
      obtain rfl:(Value.int .u8 (((ch ds)[j]'(by rw [ch_length];exact hj):Nat):Int))=u1:=by injection hu1
      obtain⟨y,hy⟩:∃y,y=ds[j]+48:=⟨_,rfl⟩
      have hy2:(ch ds)[j]'(by rw [ch_length];exact hj)=y:=by rw [hy];simp [ch]
      rw [hy2]at hcell
      have HY:=Lib.hid (show(ds.drop j).reverse=(ds.drop (j+1)).reverse++[ds[j]]by rw [List.drop_eq_getElem_cons hj,List.reverse_cons])
      have HY2:=Lib.hid (show ch (ds.drop j).reverse=ch (ds.drop (j+1)).reverse++[y]by rw [HY.out,ch_append,hy];rfl)
      have hyl:y<256:=by have:=HSM.out ds[j] (List.getElem_mem hj);omega
      have HLL:=Lib.hid (show(bL++ch (ds.drop (j+1)).reverse).length≤4294967299 by simp [ch];omega)
      clear hy hy2 hu1 hov hod hne hpos e3
      have hjn:(j:Int)<(ds.length:Int):=by omega
      have hj0:(0:Int)≤(j:Int):=by omega
      go_wp2_with(at_builtin;refine wpList_append_at _ rfl (.tmp 41) (.tmp 46) 58 rfl w.heap.size elemBytes rfl (HOV.out.alloc _) rfl (rd_single _ _ _) (by omega) (by simp [Value.oneCell']) (by have:=HLL.out;unfold maxLen;omega) (by have:=HLL.out;omega) (by simp;omega) ?_;intro v5 w5 hown5 hg5 ho5;have HO5:=Lib.hid hown5;have HG5:=Lib.hid hg5;have HV5:=Lib.hid ho5;clear hown5 hg5 ho5)
      obtain⟨A6,c6,e6,_⟩:=own_form HO5.out
      have hd6:((Value.slice (some ⟨b,o,none⟩) ds.length c2).ownBlock=none∨(Value.slice (some ⟨b,o,none⟩) ds.length c2).ownBlock≠v5.ownBlock):=own_after (HOD.out.alloc _) HNE.out HV5.out
      have hw6:w5.ownsRow w.heap.size 5 1 (.slice (some ⟨b,o,none⟩) ds.length c2) ds.length (bytesV (ch ds)):=(HOD.out.alloc _).kept HG5.out HNE.out
      have hb6:Below w.heap.size w w5:=Below.grown (hbw.alloc hszw (.cells #[.int .u8 (y:Int)] 5)) HG5.out (by simp;omega) (fun g e=>(HOV.out.lt g e).1)
      have hn6:(bL++ch (ds.drop j).reverse).length=(bL++ch (ds.drop (j+1)).reverse).length+1:=by rw [HY2.out,←List.append_assoc,List.length_append];rfl
      subst e6
      refine⟨⟨j,by omega,rfl,⟨A6,c6,by rw [hn6],?_⟩,hw6,hd6,hb6⟩,by simp [intOf]⟩
      rw [hn6,HY2.out,←List.append_assoc,bytesV_append]
      exact HO5.out
     ·
      obtain rfl:k=0:=by omega
      rw [List.drop_zero,HD.out]at hov HOV ⊢
      rw [show((0:Nat):Int)-1= -1 from rfl]
      have HBW2:=Lib.hid hbw
      clear hov hod hne hpos HOD HNE
      generalize wr=w3 at*
      obtain⟨cs,hcs⟩:∃cs,cs=bL++ch (dec W):=⟨_,rfl⟩
      rw [←hcs]at HOV ⊢
      have hcl:cs.length≤4294967298:=by have:=dec_length_le W;rw [hcs];simp [ch];omega
      obtain⟨p,hp⟩:∃p,p=u%4294967296:=⟨_,rfl⟩
      have hmask:bits .and .u64 (u:Int) 4294967295=(p:Int):=by rw [hp];exact maskN u hul
      have hpl:p<4294967296:=by omega
      have HT:=Lib.hid (show textOf a=cs++(if p=0 then []else 46::ch (frT 32 p))by
       unfold textOf
       rw [←HU.out,hcs,hp,HBL.out,HW.out,List.append_assoc];rfl)
      have HP:=Lib.hid hp
      clear hcs hp
      by_cases hp0:0<p
      ·
       have hne0:¬p=0:=by omega
       have HT2:=Lib.hid (show(cs++[46])++ch (frT 32 p)=textOf a by rw [HT.out,if_neg hne0,List.append_assoc];rfl)
       go_upto_region 17 with(at_builtin;refine wpList_append_rd _ rfl (.tmp 52) (.tmp 53) 58 rfl elemBytes rfl (HOV.out.alloc _) rfl (by simp) (rd_one _ _ _) (by simp [Value.oneCell']) (by unfold maxLen;omega) (by omega) (by simp;omega) ?_;intro A7 c7 w4 hA7 hown7 hg7;have HO7:=Lib.hid (show OwnB w.heap.size w4 (.slice A7 (cs.length+1) c7) (cs++[46])from⟨A7,c7,by rw [List.length_append];rfl,by rw [bytesV_append,List.length_append];exact hown7⟩);have HB7:=Lib.hid (Below.grown (hbw.alloc hszw (.cells #[.int .u8 46] 5)) hg7 (by simp;omega) (fun g e=>(HOV.out.lt g e).1));clear hown7 hg7 hA7)
       go_loopw [3,8] (fun v pv wr=>∃(k r:Nat) (xs:List Nat),k≤32∧TextLaw.Ends k r∧pv=.int .u64 (r:Int)∧OwnB w.heap.size wr v xs∧xs++ch (frT k r)=textOf a∧xs.length+k≤5000000000∧Below w.heap.size w wr∧(0<r→0<k)) (fun v _ _=>5000000001-(match v with| .slice _ n _=>n|_=>0))
       case atStart=>exact⟨32,p,cs++[46],Nat.le_refl _,ends_all hpl,rfl,HO7.out,HT2.out,by rw [List.length_append,List.length_singleton];omega,HB7.out,fun _=>by omega⟩
       case round=>
        obtain⟨k,r,xs,hk,he,rfl,⟨A5,c5,rfl,hov⟩,hT,hxl,hb5,hkr⟩:=hrel
        have hsz5:=hb5.size
        have HOV5:=Lib.hid hov
        have HT5:=Lib.hid hT
        have HE:=Lib.hid he
        clear hov hT
        by_cases hr:0<r
        ·
         obtain⟨j,rfl⟩:∃j,k=j+1:=⟨k-1,by have:=hkr hr;omega⟩
         have hrl:=he.1
         obtain⟨m,hm⟩:∃m,m=10*r:=⟨_,rfl⟩
         have e1:(r:Int)*10=(m:Int):=by omega
         have hml:m<42949672960:=by omega
         have e2:(m:Int)/4294967296=((m/4294967296:Nat):Int):=by omega
         have hd9:m/4294967296<10:=by omega
         have hmask2:=maskN m (by omega)
         have HS:=Lib.hid (he.step (by omega))
         have HF:=Lib.hid (show ch (frT (j+1) r)=[m/4294967296+48]++ch (frT j (m%4294967296))by rw [frT_step hr,hm];rfl)
         rw [←hm]at HS
         have HJ:=Lib.hid (show 0<m%4294967296→0<j from fun h=>by
          rcases Nat.eq_zero_or_pos j with h0|h0
          ·
           have h2:=HS.out
           rw [h0]at h2
           have:=h2.zero
           omega
          · exact h0)
         generalize m/4294967296=x at e2 hd9 HF
         generalize m%4294967296=y at hmask2 HS HF HJ
         clear hm he hkr
         go_wp2_with(at_builtin;refine wpList_append_rd _ rfl (.tmp 59) (.tmp 64) 58 rfl elemBytes rfl (HOV5.out.alloc _) rfl (by simp) (rd_one _ _ _) (by simp [Value.oneCell']) (by unfold maxLen;omega) (by omega) (by simp;omega) ?_;intro A3 c3 w3 hA3 hown3 hg3;have HO3:=Lib.hid hown3;have HB3:=Lib.hid (Below.grown (hb5.alloc (by omega) (.cells #[.int .u8 (48+(x:Int))] 5)) hg3 (by simp;omega) (fun g e=>(HOV5.out.lt g e).1));clear hown3 hg3 hA3)
         refine⟨⟨j,y,xs++[x+48],by omega,HS.out,rfl,⟨A3,c3,by rw [List.length_append];rfl,?_⟩,by rw [List.append_assoc,←HF.out];exact HT5.out,by rw [List.length_append,List.length_singleton];omega,HB3.out,HJ.out⟩,?_⟩
         ·
          rw [bytesV_append,List.length_append]
          simpa [bytesV,Int.add_comm] using HO3.out
         ·
          show _-(xs.length+1)<_-xs.length
          omega
        ·
         have hr0:r=0:=by omega
         have HT6:=Lib.hid (show xs=textOf a by have h:=HT5.out;rw [hr0,frT_zero]at h;simpa [ch] using h)
         have hcv:=conv_own rfl HOV5.out
         clear hr hkr he
         go_wp2_with fail
         go_ret
         exact⟨by rw [HT6.out];rfl,hb5⟩
      ·
       have hp1:p=0:=by omega
       have HT2:=Lib.hid (show cs++ch (frT 32 p)=textOf a by rw [HT.out,if_pos hp1,hp1,frT_zero];rfl)
       clear hp1
       go_upto_region 17 with fail
       go_loopw [3,8] (fun v pv wr=>∃(k r:Nat) (xs:List Nat),k≤32∧TextLaw.Ends k r∧pv=.int .u64 (r:Int)∧OwnB w.heap.size wr v xs∧xs++ch (frT k r)=textOf a∧xs.length+k≤5000000000∧Below w.heap.size w wr∧(0<r→0<k)) (fun v _ _=>5000000001-(match v with| .slice _ n _=>n|_=>0))
       case atStart=>exact⟨32,p,cs,Nat.le_refl _,ends_all hpl,rfl,⟨A4,c4,rfl,HOV.out⟩,HT2.out,by omega,HBW2.out,fun _=>by omega⟩
       case round=>
        obtain⟨k,r,xs,hk,he,rfl,⟨A5,c5,rfl,hov⟩,hT,hxl,hb5,hkr⟩:=hrel
        have hsz5:=hb5.size
        have HOV5:=Lib.hid hov
        have HT5:=Lib.hid hT
        have HE:=Lib.hid he
        clear hov hT
        by_cases hr:0<r
        ·
         obtain⟨j,rfl⟩:∃j,k=j+1:=⟨k-1,by have:=hkr hr;omega⟩
         have hrl:=he.1
         obtain⟨m,hm⟩:∃m,m=10*r:=⟨_,rfl⟩
         have e1:(r:Int)*10=(m:Int):=by omega
         have hml:m<42949672960:=by omega
         have e2:(m:Int)/4294967296=((m/4294967296:Nat):Int):=by omega
         have hd9:m/4294967296<10:=by omega
         have hmask2:=maskN m (by omega)
         have HS:=Lib.hid (he.step (by omega))
         have HF:=Lib.hid (show ch (frT (j+1) r)=[m/4294967296+48]++ch (frT j (m%4294967296))by rw [frT_step hr,hm];rfl)
         rw [←hm]at HS
         have HJ:=Lib.hid (show 0<m%4294967296→0<j from fun h=>by
          rcases Nat.eq_zero_or_pos j with h0|h0
          ·
           have h2:=HS.out
           rw [h0]at h2
           have:=h2.zero
           omega
          · exact h0)
         generalize m/4294967296=x at e2 hd9 HF
         generalize m%4294967296=y at hmask2 HS HF HJ
         clear hm he hkr
         go_wp2_with(at_builtin;refine wpList_append_rd _ rfl (.tmp 59) (.tmp 64) 58 rfl elemBytes rfl (HOV5.out.alloc _) rfl (by simp) (rd_one _ _ _) (by simp [Value.oneCell']) (by unfold maxLen;omega) (by omega) (by simp;omega) ?_;intro A3 c3 w3 hA3 hown3 hg3;have HO3:=Lib.hid hown3;have HB3:=Lib.hid (Below.grown (hb5.alloc (by omega) (.cells #[.int .u8 (48+(x:Int))] 5)) hg3 (by simp;omega) (fun g e=>(HOV5.out.lt g e).1));clear hown3 hg3 hA3)
         refine⟨⟨j,y,xs++[x+48],by omega,HS.out,rfl,⟨A3,c3,by rw [List.length_append];rfl,?_⟩,by rw [List.append_assoc,←HF.out];exact HT5.out,by rw [List.length_append,List.length_singleton];omega,HB3.out,HJ.out⟩,?_⟩
         ·
          rw [bytesV_append,List.length_append]
          simpa [bytesV,Int.add_comm] using HO3.out
         ·
          show _-(xs.length+1)<_-xs.length
          omega
        ·
         have hr0:r=0:=by omega
         have HT6:=Lib.hid (show xs=textOf a by have h:=HT5.out;rw [hr0,frT_zero]at h;simpa [ch] using h)
         have hcv:=conv_own rfl HOV5.out
         clear hr hkr he
         go_wp2_with fail
         go_ret
         exact⟨by rw [HT6.out];rfl,hb5⟩
end Tx
namespace ReadLaw
open TextLaw
theorem num_up (l:List Nat):num (l.map (· +48))=numD l:=by
 unfold num numD;rw [List.foldl_map];simp
theorem numD_snoc (a:List Nat) (c:Nat):numD (a++[c])=numD a*10+c:=by
 unfold numD;rw [List.foldl_append];rfl
theorem numD_dec (n:Nat):numD (dec n)=n:=by
 induction n using Nat.strongRecOn with
 |_ n ih=>
  by_cases h:n<10
  · rw [dec_lo h];simp [numD]
  · rw [dec_hi h,numD_snoc,ih (n/10) (by omega)];omega
theorem dec_head (n:Nat) (hn:0<n):(dec n).getD 0 0≠0:=by
 induction n using Nat.strongRecOn with
 |_ n ih=>
  by_cases h:n<10
  · rw [dec_lo h];show n≠0;omega
  ·
   rw [dec_hi h]
   have h1:=ih (n/10) (by omega) (by omega)
   have h2:=dec_pos (n/10)
   cases hd:dec (n/10)with
   |nil=>rw [hd]at h2;simp at h2
   |cons c l=>rw [hd]at h1;exact h1
theorem frT_val:∀k p,k≤32→TextLaw.Ends k p→numD (frT k p)*4294967296=p*10 ^ (frT k p).length
 |0,p,_,he=>by rw [he.zero];rfl
 |k+1,p,hk,he=>by
  by_cases hp:p=0
  · subst hp;rw [frT_zero];rfl
  ·
   have ih:=frT_val k (10*p%4294967296) (by omega) (he.step hk)
   rw [frT_step (by omega),numD_cons,List.length_cons,Nat.add_mul,ih,Nat.pow_succ]
   have h:=Nat.div_add_mod (10*p) 4294967296
   generalize 10*p/4294967296=q at h ⊢
   generalize 10*p%4294967296=r at h ⊢
   generalize 10 ^ (frT k r).length=t
   have e:q*t*4294967296+r*t=(4294967296*q+r)*t:=by rw [Nat.add_mul,Nat.mul_comm 4294967296 q,Nat.mul_assoc q,Nat.mul_comm t,←Nat.mul_assoc]
   rw [e,h,Nat.mul_comm 10 p,Nat.mul_assoc,Nat.mul_comm 10 t]
theorem dg_up {l:List Nat} (h:∀x∈l,x<10):(l.map (· +48)).all dg=true:=by
 rw [List.all_eq_true]
 intro x hx
 obtain⟨y,hy,rfl⟩:=List.mem_map.1 hx
 have:=h y hy
 exact decide_eq_true (by omega)
theorem digits_up {l:List Nat} (h:∀x∈l,x<10) (hl:0<l.length):digitsOf (l.map (· +48))=true:=by
 unfold digitsOf
 rw [dg_up h,decide_eq_true (by intro e;have:=congrArg List.length e;simp at this;subst this;simp at hl)];rfl
theorem no_point {l:List Nat}:∀c∈l.map (· +48),c≠46:=fun c hc=>by
 obtain⟨y,_,rfl⟩:=List.mem_map.1 hc
 omega
def bodyT (u:Nat):List Nat:=(dec (u/4294967296)).map (· +48)++(if u%4294967296=0 then []else 46::(frT 32 (u%4294967296)).map (· +48))
theorem val_exact (neg:Bool) (u N k:Nat) (h:N*4294967296=u*10 ^ k) (hr:in64 (if neg then-(u:Int)else(u:Int))=true):valOf neg N k=(if neg then-(u:Int)else(u:Int),0):=by
 have hP:0<10 ^ k:=Nat.pow_pos (by omega)
 unfold valOf
 generalize 10 ^ k=P at h hP ⊢
 have hI:(N:Int)*4294967296=(u:Int)*(P:Int):=by
  have:=congrArg (fun n:Nat=>(n:Int)) h;simpa using this
 have e2:((P*2:Nat):Int)=(P:Int)*2:=by omega
 have hPI:(0:Int)<(P:Int):=by omega
 have hgo:∀s:Int,(s=(N:Int)∨s= -(N:Int))→∀v:Int,s*4294967296=v*(P:Int)→(s*8589934592+(P:Int))/((P:Int)*2)=v:=fun s _ v hv=>
  div_of (by omega) (by rw [twice_];omega) (by rw [Int.add_mul,twice_];omega)
 have e3:((if neg then-(N:Int)else(N:Int))*8589934592+((P:Nat):Int))/((P*2:Nat):Int)=if neg then-(u:Int)else(u:Int):=by
  rw [e2]
  cases neg with
  |true=>exact hgo _ (.inr rfl) _ (by simp only [if_true];rw [Int.neg_mul,Int.neg_mul,hI])
  |false=>exact hgo _ (.inl rfl) _ (by simpa using hI)
 simp only [e3,hr,if_true]
theorem body_read (neg:Bool) (u:Nat) (hr:in64 (if neg then-(u:Int)else(u:Int))=true):bodyOf neg (bodyT u)=(if neg then-(u:Int)else(u:Int),0):=by
 have hp:u%4294967296<4294967296:=Nat.mod_lt _ (by omega)
 have hD:=digits_up (dec_small (u/4294967296)) (dec_pos _)
 have hz:¬(1<((dec (u/4294967296)).map (· +48)).length∧((dec (u/4294967296)).map (· +48)).getD 0 0=48):=fun⟨h1,h2⟩=>by
  by_cases h0:u/4294967296<10
  · rw [dec_lo h0]at h1;simp at h1
  ·
   have h3:=dec_head (u/4294967296) (by omega)
   cases hd:dec (u/4294967296)with
   |nil=>rw [hd]at h1;simp at h1
   |cons c l=>rw [hd]at h2 h3;have h2:c+48=48:=h2;have h3:c≠0:=h3;omega
 have hu:=Nat.div_add_mod u 4294967296
 by_cases h:u%4294967296=0
 ·
  have hc:cutOf (bodyT u)=((dec (u/4294967296)).map (· +48),[],true):=by
   unfold bodyT;rw [if_pos h,List.append_nil,cut_none no_point,hD]
  unfold bodyOf
  rw [hc]
  dsimp only
  rw [if_neg (by rintro(h|h);cases h;exact hz h),List.append_nil,num_up,numD_dec]
  exact val_exact neg u _ 0 (by omega) hr
 ·
  have hF:=digits_up (frT_small 32 (u%4294967296) hp) (frT_pos (by omega) (ends_all hp) (by omega))
  have hc:cutOf (bodyT u)=((dec (u/4294967296)).map (· +48),(frT 32 (u%4294967296)).map (· +48),true):=by
   unfold bodyT;rw [if_neg h,cut_some no_point,hD,hF];rfl
  unfold bodyOf
  rw [hc]
  dsimp only
  rw [if_neg (by rintro(h|h);cases h;exact hz h),num_append,num_up,num_up,numD_dec,List.length_map]
  refine val_exact neg u _ _ ?_ hr
  have hv:=frT_val 32 (u%4294967296) (by omega) (ends_all hp)
  rw [Nat.add_mul,hv,Nat.mul_assoc,Nat.mul_comm (10 ^ _) 4294967296,←Nat.mul_assoc,←Nat.add_mul,Nat.mul_comm (u/4294967296),hu]
theorem text_len (a:Int) (ha: -9223372036854775808≤a∧a≤9223372036854775807):(textOf a).length≤44:=by
 have h1:=dec_length 9 (a.natAbs/4294967296) (by show _<10000000000;omega)
 have h2:=frT_length 32 (a.natAbs%4294967296)
 unfold textOf
 rw [List.length_append,List.length_append,List.length_map]
 split<;>split<;>simp<;>omega
theorem read_text (a:Int) (ha: -9223372036854775808≤a∧a≤9223372036854775807):readOf (textOf a)=(a,0):=by
 have hl:=text_len a ha
 have ht:textOf a=(if a<0 then [45]else [])++bodyT a.natAbs:=rfl
 have hne:∃c l,bodyT a.natAbs=(c+48)::l:=by
  unfold bodyT
  have:=dec_pos (a.natAbs/4294967296)
  cases hd:dec (a.natAbs/4294967296)with
  |nil=>rw [hd]at this;simp at this
  |cons c l=>exact⟨c,_,rfl⟩
 obtain⟨c,l,hb⟩:=hne
 unfold readOf
 rw [if_neg (by omega),ht]
 by_cases h:a<0
 ·
  have hn:negOf ((if a<0 then [45]else [])++bodyT a.natAbs)=true:=by rw [if_pos h];rfl
  rw [hn]
  simp only [if_true,if_pos h]
  show bodyOf true (bodyT a.natAbs)=(a,0)
  rw [body_read true a.natAbs (by simp only [if_true];exact decide_eq_true (by omega))]
  simp only [if_true]
  rw [show-((a.natAbs:Nat):Int)=a by omega]
 ·
  have hn:negOf ((if a<0 then [45]else [])++bodyT a.natAbs)=false:=by
   rw [if_neg h,List.nil_append,hb]
   exact decide_eq_false (by show ¬c+48=45;omega)
  rw [hn]
  simp only [Bool.false_eq_true,if_false,if_neg h]
  show bodyOf false (bodyT a.natAbs)=(a,0)
  rw [body_read false a.natAbs (by simp only [Bool.false_eq_true,if_false];exact decide_eq_true (by omega))]
  simp only [Bool.false_eq_true,if_false]
  rw [show((a.natAbs:Nat):Int)=a by omega]
theorem text_plain (a:Int):∀c∈textOf a,c=45∨c=46∨(48≤c∧c≤57):=by
 intro c hc
 have hp:a.natAbs%4294967296<4294967296:=Nat.mod_lt _ (by omega)
 unfold textOf at hc
 rcases List.mem_append.1 hc with h|h
 ·
  split at h
  · simp at h;exact .inl h
  · cases h
 ·
  rcases List.mem_append.1 h with h|h
  ·
   obtain⟨x,hx,rfl⟩:=List.mem_map.1 h
   have:=dec_small _ x hx;exact .inr (.inr (by omega))
  ·
   split at h
   · cases h
   ·
    rcases List.mem_cons.1 h with h|h
    · exact .inr (.inl h)
    ·
     obtain⟨x,hx,rfl⟩:=List.mem_map.1 h
     have:=frT_small 32 _ hp x hx;exact .inr (.inr (by omega))
end ReadLaw
namespace Ls
open Go.Shelf
def laysB_ren:Go.Shelf.Ren:=⟨fun|171=>24|243=>50|246=>70|283=>90|284=>91|285=>92|286=>93|129=>115|317=>114|318=>116|319=>117|320=>118|337=>131|338=>132|n=>n,fun|3=>3|9=>9|2=>2|4=>4|171=>167|0=>0|53=>59|37=>58|5=>5|173=>170|212=>189|51=>166|20=>20|213=>190|46=>61|232=>218|233=>219|n=>n,fun|17=>1|18=>6|19=>7|n=>n⟩
theorem laysB:Go.Proofs.Lays.n171 Tryz.prog laysB_ren:={
 mixed:=by kernel_rfl
 f129:=Tryz.func115.trans (congrArg some (by kernel_rfl))
 f171:=Tryz.func24.trans (congrArg some (by kernel_rfl))
 f243:=Tryz.func50.trans (congrArg some (by kernel_rfl))
 f246:=Tryz.func70.trans (congrArg some (by kernel_rfl))
 f283:=Tryz.func90.trans (congrArg some (by kernel_rfl))
 f284:=Tryz.func91.trans (congrArg some (by kernel_rfl))
 f285:=Tryz.func92.trans (congrArg some (by kernel_rfl))
 f286:=Tryz.func93.trans (congrArg some (by kernel_rfl))
 f317:=Tryz.func114.trans (congrArg some (by kernel_rfl))
 f318:=Tryz.func116.trans (congrArg some (by kernel_rfl))
 f319:=Tryz.func117.trans (congrArg some (by kernel_rfl))
 f320:=Tryz.func118.trans (congrArg some (by kernel_rfl))
 f337:=Tryz.func131.trans (congrArg some (by kernel_rfl))
 f338:=Tryz.func132.trans (congrArg some (by kernel_rfl))
 t0:=Tryz.underlying0
 a0:=Tryz.isAgg0
 z0:=Tryz.sizeOf0
 v0:=Tryz.zeroValue0
 t2:=Tryz.underlying2
 a2:=Tryz.isAgg2
 z2:=Tryz.sizeOf2
 v2:=Tryz.zeroValue2
 t3:=Tryz.underlying3
 a3:=Tryz.isAgg3
 z3:=Tryz.sizeOf3
 v3:=Tryz.zeroValue3
 t4:=Tryz.underlying4
 a4:=Tryz.isAgg4
 z4:=Tryz.sizeOf4
 v4:=Tryz.zeroValue4
 t5:=Tryz.underlying5
 a5:=Tryz.isAgg5
 z5:=Tryz.sizeOf5
 v5:=Tryz.zeroValue5
 t9:=Tryz.underlying9
 a9:=Tryz.isAgg9
 z9:=Tryz.sizeOf9
 v9:=Tryz.zeroValue9
 t20:=Tryz.underlying20
 a20:=Tryz.isAgg20
 z20:=Tryz.sizeOf20
 v20:=Tryz.zeroValue20
 t37:=Tryz.underlying58
 a37:=Tryz.isAgg58
 z37:=Tryz.sizeOf58
 v37:=Tryz.zeroValue58
 t46:=Tryz.underlying61
 a46:=Tryz.isAgg61
 z46:=Tryz.sizeOf61
 v46:=Tryz.zeroValue61
 t51:=Tryz.underlying166
 a51:=Tryz.isAgg166
 z51:=Tryz.sizeOf166
 v51:=Tryz.zeroValue166
 t53:=Tryz.underlying59
 a53:=Tryz.isAgg59
 z53:=Tryz.sizeOf59
 v53:=Tryz.zeroValue59
 t171:=Tryz.underlying167
 a171:=Tryz.isAgg167
 z171:=Tryz.sizeOf167
 v171:=Tryz.zeroValue167
 t173:=Tryz.underlying170
 a173:=Tryz.isAgg170
 z173:=Tryz.sizeOf170
 v173:=Tryz.zeroValue170
 t212:=Tryz.underlying189
 a212:=Tryz.isAgg189
 z212:=Tryz.sizeOf189
 v212:=Tryz.zeroValue189
 t213:=Tryz.underlying190
 a213:=Tryz.isAgg190
 z213:=Tryz.sizeOf190
 t232:=Tryz.underlying218
 a232:=Tryz.isAgg218
 z232:=Tryz.sizeOf218
 v232:=Tryz.zeroValue218
 t233:=Tryz.underlying219
 a233:=Tryz.isAgg219
 z233:=Tryz.sizeOf219
 v233:=Tryz.zeroValue219
 g17:=by kernel_rfl
 g18:=by kernel_rfl
 g19:=by kernel_rfl }
open Go.RowKit Go.Sort Go.Lib in
theorem strconv_Itoa_small (i:Nat) (hi:i<100) (w:World):
  Calls Tryz.prog 24 #[.int .i64 i] w fun e w'=>e=.returned (.string ⟨(Lib.decDigits i).toArray⟩)∧w'=w:=Any.strconv_Itoa_small laysB i hi w
def laysA_ren:Go.Shelf.Ren:=⟨fun|146=>21|221=>43|268=>63|138=>64|143=>65|195=>84|197=>85|218=>86|219=>87|260=>106|217=>107|225=>108|224=>109|267=>110|266=>127|314=>128|n=>n,fun|9=>9|31=>78|3=>3|4=>4|0=>0|105=>161|21=>21|5=>5|46=>61|119=>201|139=>204|138=>203|146=>205|51=>166|n=>n,fun|1=>0|3=>2|4=>3|n=>n⟩
theorem laysA:Go.Proofs.Lays.n146 Tryz.prog laysA_ren:={
 mixed:=by kernel_rfl
 f138:=Tryz.func64.trans (congrArg some (by kernel_rfl))
 f143:=Tryz.func65.trans (congrArg some (by kernel_rfl))
 f146:=Tryz.func21.trans (congrArg some (by kernel_rfl))
 f195:=Tryz.func84.trans (congrArg some (by kernel_rfl))
 f197:=Tryz.func85.trans (congrArg some (by kernel_rfl))
 f217:=Tryz.func107.trans (congrArg some (by kernel_rfl))
 f218:=Tryz.func86.trans (congrArg some (by kernel_rfl))
 f219:=Tryz.func87.trans (congrArg some (by kernel_rfl))
 f221:=Tryz.func43.trans (congrArg some (by kernel_rfl))
 f224:=Tryz.func109.trans (congrArg some (by kernel_rfl))
 f225:=Tryz.func108.trans (congrArg some (by kernel_rfl))
 f260:=Tryz.func106.trans (congrArg some (by kernel_rfl))
 f266:=Tryz.func127.trans (congrArg some (by kernel_rfl))
 f267:=Tryz.func110.trans (congrArg some (by kernel_rfl))
 f268:=Tryz.func63.trans (congrArg some (by kernel_rfl))
 f314:=Tryz.func128.trans (congrArg some (by kernel_rfl))
 t0:=Tryz.underlying0
 a0:=Tryz.isAgg0
 z0:=Tryz.sizeOf0
 v0:=Tryz.zeroValue0
 t3:=Tryz.underlying3
 a3:=Tryz.isAgg3
 z3:=Tryz.sizeOf3
 v3:=Tryz.zeroValue3
 t4:=Tryz.underlying4
 a4:=Tryz.isAgg4
 z4:=Tryz.sizeOf4
 v4:=Tryz.zeroValue4
 t5:=Tryz.underlying5
 a5:=Tryz.isAgg5
 z5:=Tryz.sizeOf5
 v5:=Tryz.zeroValue5
 t9:=Tryz.underlying9
 a9:=Tryz.isAgg9
 z9:=Tryz.sizeOf9
 v9:=Tryz.zeroValue9
 t21:=Tryz.underlying21
 a21:=Tryz.isAgg21
 z21:=Tryz.sizeOf21
 v21:=Tryz.zeroValue21
 t31:=Tryz.underlying78
 a31:=Tryz.isAgg78
 z31:=Tryz.sizeOf78
 v31:=Tryz.zeroValue78
 t46:=Tryz.underlying61
 a46:=Tryz.isAgg61
 z46:=Tryz.sizeOf61
 v46:=Tryz.zeroValue61
 t51:=Tryz.underlying166
 a51:=Tryz.isAgg166
 z51:=Tryz.sizeOf166
 v51:=Tryz.zeroValue166
 t105:=Tryz.underlying161
 a105:=Tryz.isAgg161
 z105:=Tryz.sizeOf161
 v105:=Tryz.zeroValue161
 t119:=Tryz.underlying201
 a119:=Tryz.isAgg201
 z119:=Tryz.sizeOf201
 t138:=Tryz.underlying203
 a138:=Tryz.isAgg203
 z138:=Tryz.sizeOf203
 v138:=Tryz.zeroValue203
 t139:=Tryz.underlying204
 a139:=Tryz.isAgg204
 z139:=Tryz.sizeOf204
 v139:=Tryz.zeroValue204
 t146:=Tryz.underlying205
 a146:=Tryz.isAgg205
 z146:=Tryz.sizeOf205
 v146:=Tryz.zeroValue205
 g1:=by kernel_rfl
 g3:=by kernel_rfl
 g4:=by kernel_rfl }
open Go.RowKit Go.Lib in
theorem strings_Split (s sep:ByteArray) (m:Int) (w:World) (hs:s.size<4294967281) (hm: w.cell? ⟨0,0,none⟩=some (.int .i64 m)) (h1:1≤sep.size):
  Calls Tryz.prog 21 #[.string s,.string sep] w fun e w'=>
   e=.returned (.slice (some ⟨w.heap.size,0,none⟩) (Lib.countB s sep+1) (Lib.countB s sep+1))∧w'=w.alloc (.cells ((Lib.splitB sep 0 (Lib.countB s sep) s).map Value.string).toArray 9):=Any.strings_Split laysA (by kernel_rfl) s sep m w hs hm h1
end Ls
end Go.Proofs.YtljpoibnkkcjdaaGreatDoor
