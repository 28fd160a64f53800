import Derived.Test.YtljpoibnkkcjdaaGreatDoorPc27
set_option linter.unusedVariables false
set_option linter.unusedSimpArgs false
namespace Go.Proofs.YtljpoibnkkcjdaaGreatDoor
namespace Tx
open Go.RowKit Mem Rws Sm ReadLaw
theorem index0_strB {s:ByteArray} {l:List Nat} {x:Nat} (hs:s=strB l) (hl:∀y∈l,y<256) (hm:0<l.length) (hx:l.getD 0 0=x) (w:World):(Instr.index 9 (.string s) (.int .i64 0)).run Tryz.prog w=.ok (.int .u8 (x:Int)) w:=
 index_strB (m:=0) hs hl hm hx rfl w
theorem mem_getD {l:List Nat} {k:Nat} (h:k<l.length):l.getD k 0∈l:=by
 rw [List.getD_eq_getElem?_getD,List.getElem?_eq_getElem h];exact List.getElem_mem h
theorem cut_small {t:List Nat} (h:∀y∈t,y<256):(∀y∈(cutOf t).1,y<256)∧(∀y∈(cutOf t).2.1,y<256):=by
 unfold cutOf
 split
 · exact⟨h,fun y hy=>by cases hy⟩
 · exact⟨fun y hy=>h y ((List.takeWhile_sublist (l:=t) (· !=46)).subset hy),fun y hy=>h y (List.mem_of_mem_drop hy)⟩
set_option maxRecDepth 100000 in
set_option maxHeartbeats 2000000 in
theorem fixRead_any (l:List Nat) (w:World) (hl:∀y∈l,y<256) (hm:l.length≤9223372036854775807):
  Calls Tryz.prog 88 #[.string (strB l)] w fun e w'=>e=.returned (.tuple #[.int .i64 (readOf l).1,.int .i64 (readOf l).2])∧Below w.heap.size w w':=by
 obtain⟨S,hS⟩:∃S,S=strB l:=⟨_,rfl⟩
 have hsz:S.size=l.length:=by rw [hS,strB_size]
 rw [←hS]
 have HS:=Lib.hid hS
 have HL:=Lib.hid hl
 have HZ:=Lib.hid hsz
 have HE:=Lib.hid (show S.toList.isEmpty=decide (l=[])by rw [hS,strB_empty])
 by_cases hlong:60<l.length
 ·
  have HR:=Lib.hid (show readOf l=(0,1)by unfold readOf;rw [if_pos hlong])
  have h60:60<S.size:=by omega
  clear hS hl hsz hlong hm
  go_enter Tryz.func88,Tryz.ntmps88
  go_wp2_with fail
  go_ret2
  exact⟨by rw [HR.out];rfl,Below.refl _ _⟩
 ·
  have h60:¬60<S.size:=by omega
  have HN:=Lib.hid (show l.length≤60 by omega)
  have HR:=Lib.hid (show readOf l=bodyOf (negOf l) (if negOf l then l.drop 1 else l)by unfold readOf;rw [if_neg hlong])
  clear hS hl hsz hlong hm
  by_cases hneg:negOf l=true
  ·
   have hlp:0<l.length:=by
    rcases Nat.eq_zero_or_pos l.length with h|h
    ·
     have h2:l=[]:=List.eq_nil_of_length_eq_zero h
     rw [h2]at hneg;simp [negOf]at hneg
    · exact h
   have he:S.toList.isEmpty=false:=by rw [HE.out,decide_eq_false (fun h=>by rw [h]at hlp;simp at hlp)]
   have hx45:l.getD 0 0=45:=of_decide_eq_true hneg
   have hix:∀w,(Instr.index 9 (.string S) (.int .i64 0)).run Tryz.prog w=.ok (.int .u8 45) w:=index0_strB HS.out HL.out hlp hx45
   have HT:=Lib.hid (show S.extract 1 S.size=strB (l.drop 1)by rw [HZ.out,HS.out,strB_extract,List.take_of_length_le (by simp)])
   have hs1:1≤S.size:=by rw [HZ.out];exact hlp
   have HRB:=Lib.hid (show readOf l=bodyOf true (l.drop 1)by rw [HR.out,hneg];rfl)
   have HTL:=Lib.hid (show ∀y∈l.drop 1,y<256 from fun y hy=>HL.out y (List.mem_of_mem_drop hy))
   have HTN:=Lib.hid (show(l.drop 1).length≤60 by have:=HN.out;simp;omega)
   clear hneg hx45 hlp
   go_enter Tryz.func88,Tryz.ntmps88
   go_upto_region 7 with fail
   rw [HT.out]
   clear hix he hs1
   generalize l.drop 1=t at*
   go_wp2_with fail
   refine(cut_any t _ HTL.out (by have:=HTN.out;omega)).mono ?_
   rintro e w1 ⟨rfl,hb1⟩
   obtain⟨a,b,ok,hcut⟩:∃a b ok,cutOf t=(a,b,ok):=⟨_,_,_,rfl⟩
   have hcl:=cut_length t
   have HCA:=Lib.hid (cut_small HTL.out)
   rw [hcut]at hcl ⊢
   have HC0:=HCA.out
   rw [hcut]at HC0
   obtain⟨hca,hcb⟩:=HC0
   have HAL:=Lib.hid hca
   have HBL:=Lib.hid hcb
   have HCL:=Lib.hid (show a.length≤60∧b.length≤60 by have:=HTN.out;have h1:a.length≤t.length:=hcl.1;have h2:b.length≤t.length:=hcl.2;omega)
   have HCUT:=Lib.hid hcut
   have HB1:=Lib.hid hb1
   clear hcl hca hcb hcut hb1
   dsimp only
   obtain⟨SA,hSA⟩:∃SA,SA=strB a:=⟨_,rfl⟩
   obtain⟨SB,hSB⟩:∃SB,SB=strB b:=⟨_,rfl⟩
   have hza:SA.size=a.length:=by rw [hSA,strB_size]
   rw [←hSA,←hSB]
   have HSA:=Lib.hid hSA
   have HSB:=Lib.hid hSB
   have HZA:=Lib.hid hza
   clear hSA hSB hza
   cases ok with
   |false=>
    have HF:=Lib.hid (body_form (neg:=true) HCUT.out (.inl rfl))
    go_wp2_with fail
    go_ret2
    exact⟨by rw [HRB.out,HF.out];rfl,HB1.out⟩
   |true=>
    obtain⟨x,hx⟩:∃x,a.getD 0 0=x:=⟨_,rfl⟩
    have HX:=Lib.hid hx
    have HOK:=Lib.hid (cut_ok HCUT.out)
    have hapos:0<a.length:=List.length_pos_iff.2 HOK.out.1
    have HAP:=Lib.hid hapos
    by_cases hlead:1<a.length∧x=48
    ·
     have hs1:1<SA.size:=by rw [HZA.out];exact hlead.1
     have hix:∀w,(Instr.index 9 (.string SA) (.int .i64 0)).run Tryz.prog w=.ok (.int .u8 48) w:=index0_strB HSA.out HAL.out hapos (by rw [hx];exact hlead.2)
     have HF:=Lib.hid (body_form (neg:=true) HCUT.out (.inr ⟨hlead.1,by rw [hx];exact hlead.2⟩))
     clear hlead hx hapos
     go_wp2_with fail
     go_ret2
     exact⟨by rw [HRB.out,HF.out];rfl,HB1.out⟩
    ·
     have HNL:=Lib.hid (show ¬(1<a.length∧a.getD 0 0=48)by rw [hx];exact hlead)
     have hgo:(¬1<SA.size)∨(1<SA.size∧((x:Int)==48)=false):=by
      rw [HZA.out]
      by_cases h1:1<a.length
      · right;exact⟨h1,by rw [beq_eq_false_iff_ne];intro e;exact hlead ⟨h1,by omega⟩⟩
      · left;exact h1
     have hix:∀w,(Instr.index 9 (.string SA) (.int .i64 0)).run Tryz.prog w=.ok (.int .u8 (x:Int)) w:=index0_strB HSA.out HAL.out hapos hx
     have HIX:=Lib.hid hix
     have hzl:=HZA.out
     clear hlead hx hapos hix
     have hstep:True:=trivial
     rcases hgo with hs1|⟨hs1,hx48⟩
     ·
      go_upto_region 10 with fail
      by_cases hl10:10<a.length
      ·
       have hs10:10<SA.size:=by rw [HZA.out];exact hl10
       have HF:=Lib.hid (body_long (neg:=true) HCUT.out HNL.out hl10)
       clear hl10 hzl
       go_wp2_with fail
       all_goals
        go_ret2
        exact⟨by rw [HRB.out,HF.out];rfl,HB1.out⟩
      ·
       have hs10:¬10<SA.size:=by rw [HZA.out];exact hl10
       obtain⟨n,hn⟩:∃n,n=a.length:=⟨_,rfl⟩
       rw [←hn]at hzl hl10
       have HNA:=Lib.hid hn
       have HZN:=Lib.hid hzl
       clear hn
       go_upto_region 14 with fail
       go_loopw [9,10] (fun u i wr=>∃k:Nat,k≤n∧i=.int .i64 (k:Int)∧u=.int .u64 (num (a.take k):Nat)∧wr=w1) (fun _ i _=>n-(intOf i).toNat)
       case atStart=>exact⟨0,by omega,rfl,rfl,rfl⟩
       case round=>
        obtain⟨k,hk,rfl,rfl,rfl⟩:=hrel
        have hlt10:=num_take_lt HOK.out.2.1 k
        have hpk:10 ^ k≤10 ^ 10:=Nat.pow_le_pow_right (by omega) (by omega)
        have hW:num (a.take k)<10000000000:=by omega
        clear hlt10 hpk
        by_cases hlt:k<n
        ·
         have hka:k<a.length:=by rw [←HNA.out];exact hlt
         have hks:k<SA.size:=by omega
         obtain⟨y,hy⟩:∃y,a.getD k 0=y:=⟨_,rfl⟩
         have hyd:48≤y∧y≤57:=of_decide_eq_true (show dg y=true from(List.all_eq_true.1 HOK.out.2.1) y (by rw [←hy];exact mem_getD hka))
         have hixk:∀w,(Instr.index 9 (.string SA) (.int .i64 (k:Int))).run Tryz.prog w=.ok (.int .u8 (y:Int)) w:=index_strB HSA.out HAL.out hka hy rfl
         have HNT:=Lib.hid (num_take a k hka)
         rw [hy]at HNT
         have e1:(y:Int)-48=((y-48:Nat):Int):=by omega
         have hz9:y-48<10:=by omega
         generalize y-48=z at e1 hz9 HNT
         generalize num (a.take k)=W at hW HNT ⊢
         clear hy hka
         go_wp2_with fail
         exact⟨⟨k+1,by omega,by go_num,by rw [HNT.out];go_num,trivial⟩,by simp [intOf];omega⟩
        ·
         have e:k=n:=by omega
         have hge:¬k<SA.size:=by omega
         rw [show num (a.take k)=num a by rw [e,HNA.out,List.take_length]]at hW ⊢
         clear hlt e
         go_upto_region 17 with fail
         have HFA:=Lib.hid (fraction_any b wr HOK.out.2.2 (by have:=HCL.out.2;omega))
         have hfa:=HFA.out
         rw [←HSB.out]at hfa
         have HFA:=Lib.hid hfa
         clear hfa
         go_wp2_with fail
         refine HFA.out.mono ?_
         rintro e w2 ⟨⟨p,r,rfl,hfr⟩,hb2⟩
         have HFR:=Lib.hid hfr
         have HB2:=Lib.hid (onward HB1.out (Nat.le_refl _) hb2)
         have hpl:p<4294967296:=hfr.lt_pow (num_lt HOK.out.2.2)
         have HPV:=Lib.hid (show readOf l=progOf true (num a) p (half (10 ^ b.length) r)by
          rw [HRB.out,body_val HCUT.out HNL.out,prog_val true (num a) (num b) b.length p r hfr])
         clear hfr hb2 HFA
         generalize half (10 ^ b.length) r=c at HPV ⊢
         generalize num a=W at hW HPV ⊢
         obtain⟨q,hq⟩:∃q,q=(if c=1∨(c=0∧true=false)then p+1 else p):=⟨_,rfl⟩
         have HQ:=Lib.hid hq
         have hql:q≤4294967296:=by rw [hq];split<;>omega
         have HPW:=Lib.hid (show readOf l=if 2147483648<W∨(true=false∧9223372036854775807<W*4294967296+q)∨9223372036854775808<W*4294967296+q then(0,3)else(if true then-((W*4294967296+q:Nat):Int)else((W*4294967296+q:Nat):Int),0)by rw [HPV.out,hq];rfl)
         have hcase:(c=1)∨(¬c=1∧c=0)∨(¬c=1∧¬c=0):=by omega
         clear hq
         rcases hcase with hc1|⟨hc1,hc0⟩|⟨hc1,hc0⟩
         ·
          have hcq:(c==1)=true:=by rw [beq_iff_eq];exact hc1
          have hqv:q=p+1:=by rw [HQ.out,if_pos (.inl hc1)]
          clear hc1
          go_upto_region 20 with fail
          rw [show(p:Int)+1=(q:Int)by omega]
          clear hqv
          by_cases hW31:2147483648<W
          ·
           have hWI:(2147483648:Int)<(W:Int):=by omega
           have HF:=Lib.hid (show readOf l=(0,3)by rw [HPW.out,if_pos (.inl hW31)])
           clear hcq
           go_wp2_with fail
           go_ret2
           exact⟨by rw [HF.out];rfl,HB2.out⟩
          ·
           have hWI:¬(2147483648:Int)<(W:Int):=by omega
           obtain⟨U,hU⟩:∃U,U=W*4294967296+q:=⟨_,rfl⟩
           have hUI:(W:Int)*4294967296+(q:Int)=(U:Int):=by omega
           rw [←hU]at HPW
           have hUl:U≤9223372041149743104:=by omega
           clear hU
           by_cases hR:9223372036854775808<U
           ·
            have hRI:(9223372036854775808:Int)<(U:Int):=by omega
            have HF:=Lib.hid (show readOf l=(0,3)by rw [HPW.out,if_pos (.inr (.inr hR))])
            clear hcq
            go_wp2_with fail
            go_ret2
            exact⟨by rw [HF.out];rfl,HB2.out⟩
           ·
            have hRI:¬(9223372036854775808:Int)<(U:Int):=by omega
            have HF:=Lib.hid (show readOf l=(-(U:Int),0)by rw [HPW.out,if_neg (by rintro(h|h|h);exact hW31 h;cases h.1;exact hR h)];rfl)
            have hN:wrap64 (IntKind.u64.wrap (-(U:Int)))= -(U:Int):=by rw [u64wrap];unfold wrap64;omega
            have HRIN:=Lib.hid hR
            clear hcq hR hW31
            go_wp2_with fail
            go_ret2
            exact⟨by rw [HF.out];rfl,HB2.out⟩
         ·
          have hcq:(c==1)=false:=by rw [beq_eq_false_iff_ne];exact hc1
          have hcz:(c==0)=true:=by rw [beq_iff_eq];exact hc0
          have hqv:q=p:=by rw [HQ.out,if_neg (fun h=>h.elim hc1 (fun h2=>absurd h2.2 (by decide)))]
          clear hc1 hc0
          go_upto_region 20 with fail
          rw [show(p:Int)=(q:Int)by omega]
          clear hqv
          by_cases hW31:2147483648<W
          ·
           have hWI:(2147483648:Int)<(W:Int):=by omega
           have HF:=Lib.hid (show readOf l=(0,3)by rw [HPW.out,if_pos (.inl hW31)])
           clear hcq
           go_wp2_with fail
           go_ret2
           exact⟨by rw [HF.out];rfl,HB2.out⟩
          ·
           have hWI:¬(2147483648:Int)<(W:Int):=by omega
           obtain⟨U,hU⟩:∃U,U=W*4294967296+q:=⟨_,rfl⟩
           have hUI:(W:Int)*4294967296+(q:Int)=(U:Int):=by omega
           rw [←hU]at HPW
           have hUl:U≤9223372041149743104:=by omega
           clear hU
           by_cases hR:9223372036854775808<U
           ·
            have hRI:(9223372036854775808:Int)<(U:Int):=by omega
            have HF:=Lib.hid (show readOf l=(0,3)by rw [HPW.out,if_pos (.inr (.inr hR))])
            clear hcq
            go_wp2_with fail
            go_ret2
            exact⟨by rw [HF.out];rfl,HB2.out⟩
           ·
            have hRI:¬(9223372036854775808:Int)<(U:Int):=by omega
            have HF:=Lib.hid (show readOf l=(-(U:Int),0)by rw [HPW.out,if_neg (by rintro(h|h|h);exact hW31 h;cases h.1;exact hR h)];rfl)
            have hN:wrap64 (IntKind.u64.wrap (-(U:Int)))= -(U:Int):=by rw [u64wrap];unfold wrap64;omega
            have HRIN:=Lib.hid hR
            clear hcq hR hW31
            go_wp2_with fail
            go_ret2
            exact⟨by rw [HF.out];rfl,HB2.out⟩
         ·
          have hcq:(c==1)=false:=by rw [beq_eq_false_iff_ne];exact hc1
          have hcz:(c==0)=false:=by rw [beq_eq_false_iff_ne];exact hc0
          have hqv:q=p:=by rw [HQ.out,if_neg (fun h=>h.elim hc1 (fun h2=>hc0 h2.1))]
          clear hc1 hc0
          go_upto_region 20 with fail
          rw [show(p:Int)=(q:Int)by omega]
          clear hqv
          by_cases hW31:2147483648<W
          ·
           have hWI:(2147483648:Int)<(W:Int):=by omega
           have HF:=Lib.hid (show readOf l=(0,3)by rw [HPW.out,if_pos (.inl hW31)])
           clear hcq
           go_wp2_with fail
           go_ret2
           exact⟨by rw [HF.out];rfl,HB2.out⟩
          ·
           have hWI:¬(2147483648:Int)<(W:Int):=by omega
           obtain⟨U,hU⟩:∃U,U=W*4294967296+q:=⟨_,rfl⟩
           have hUI:(W:Int)*4294967296+(q:Int)=(U:Int):=by omega
           rw [←hU]at HPW
           have hUl:U≤9223372041149743104:=by omega
           clear hU
           by_cases hR:9223372036854775808<U
           ·
            have hRI:(9223372036854775808:Int)<(U:Int):=by omega
            have HF:=Lib.hid (show readOf l=(0,3)by rw [HPW.out,if_pos (.inr (.inr hR))])
            clear hcq
            go_wp2_with fail
            go_ret2
            exact⟨by rw [HF.out];rfl,HB2.out⟩
           ·
            have hRI:¬(9223372036854775808:Int)<(U:Int):=by omega
            have HF:=Lib.hid (show readOf l=(-(U:Int),0)by rw [HPW.out,if_neg (by rintro(h|h|h);exact hW31 h;cases h.1;exact hR h)];rfl)
            have hN:wrap64 (IntKind.u64.wrap (-(U:Int)))= -(U:Int):=by rw [u64wrap];unfold wrap64;omega
            have HRIN:=Lib.hid hR
            clear hcq hR hW31
            go_wp2_with fail
            go_ret2
            exact⟨by rw [HF.out];rfl,HB2.out⟩
     ·
      have hix:=HIX.out
      go_upto_region 10 with fail
      clear hix hx48
      by_cases hl10:10<a.length
      ·
       have hs10:10<SA.size:=by rw [HZA.out];exact hl10
       have HF:=Lib.hid (body_long (neg:=true) HCUT.out HNL.out hl10)
       clear hl10 hzl
       go_wp2_with fail
       all_goals
        go_ret2
        exact⟨by rw [HRB.out,HF.out];rfl,HB1.out⟩
      ·
       have hs10:¬10<SA.size:=by rw [HZA.out];exact hl10
       obtain⟨n,hn⟩:∃n,n=a.length:=⟨_,rfl⟩
       rw [←hn]at hzl hl10
       have HNA:=Lib.hid hn
       have HZN:=Lib.hid hzl
       clear hn
       go_upto_region 14 with fail
       go_loopw [9,10] (fun u i wr=>∃k:Nat,k≤n∧i=.int .i64 (k:Int)∧u=.int .u64 (num (a.take k):Nat)∧wr=w1) (fun _ i _=>n-(intOf i).toNat)
       case atStart=>exact⟨0,by omega,rfl,rfl,rfl⟩
       case round=>
        obtain⟨k,hk,rfl,rfl,rfl⟩:=hrel
        have hlt10:=num_take_lt HOK.out.2.1 k
        have hpk:10 ^ k≤10 ^ 10:=Nat.pow_le_pow_right (by omega) (by omega)
        have hW:num (a.take k)<10000000000:=by omega
        clear hlt10 hpk
        by_cases hlt:k<n
        ·
         have hka:k<a.length:=by rw [←HNA.out];exact hlt
         have hks:k<SA.size:=by omega
         obtain⟨y,hy⟩:∃y,a.getD k 0=y:=⟨_,rfl⟩
         have hyd:48≤y∧y≤57:=of_decide_eq_true (show dg y=true from(List.all_eq_true.1 HOK.out.2.1) y (by rw [←hy];exact mem_getD hka))
         have hixk:∀w,(Instr.index 9 (.string SA) (.int .i64 (k:Int))).run Tryz.prog w=.ok (.int .u8 (y:Int)) w:=index_strB HSA.out HAL.out hka hy rfl
         have HNT:=Lib.hid (num_take a k hka)
         rw [hy]at HNT
         have e1:(y:Int)-48=((y-48:Nat):Int):=by omega
         have hz9:y-48<10:=by omega
         generalize y-48=z at e1 hz9 HNT
         generalize num (a.take k)=W at hW HNT ⊢
         clear hy hka
         go_wp2_with fail
         exact⟨⟨k+1,by omega,by go_num,by rw [HNT.out];go_num,trivial⟩,by simp [intOf];omega⟩
        ·
         have e:k=n:=by omega
         have hge:¬k<SA.size:=by omega
         rw [show num (a.take k)=num a by rw [e,HNA.out,List.take_length]]at hW ⊢
         clear hlt e
         go_upto_region 17 with fail
         have HFA:=Lib.hid (fraction_any b wr HOK.out.2.2 (by have:=HCL.out.2;omega))
         have hfa:=HFA.out
         rw [←HSB.out]at hfa
         have HFA:=Lib.hid hfa
         clear hfa
         go_wp2_with fail
         refine HFA.out.mono ?_
         rintro e w2 ⟨⟨p,r,rfl,hfr⟩,hb2⟩
         have HFR:=Lib.hid hfr
         have HB2:=Lib.hid (onward HB1.out (Nat.le_refl _) hb2)
         have hpl:p<4294967296:=hfr.lt_pow (num_lt HOK.out.2.2)
         have HPV:=Lib.hid (show readOf l=progOf true (num a) p (half (10 ^ b.length) r)by
          rw [HRB.out,body_val HCUT.out HNL.out,prog_val true (num a) (num b) b.length p r hfr])
         clear hfr hb2 HFA
         generalize half (10 ^ b.length) r=c at HPV ⊢
         generalize num a=W at hW HPV ⊢
         obtain⟨q,hq⟩:∃q,q=(if c=1∨(c=0∧true=false)then p+1 else p):=⟨_,rfl⟩
         have HQ:=Lib.hid hq
         have hql:q≤4294967296:=by rw [hq];split<;>omega
         have HPW:=Lib.hid (show readOf l=if 2147483648<W∨(true=false∧9223372036854775807<W*4294967296+q)∨9223372036854775808<W*4294967296+q then(0,3)else(if true then-((W*4294967296+q:Nat):Int)else((W*4294967296+q:Nat):Int),0)by rw [HPV.out,hq];rfl)
         have hcase:(c=1)∨(¬c=1∧c=0)∨(¬c=1∧¬c=0):=by omega
         clear hq
         rcases hcase with hc1|⟨hc1,hc0⟩|⟨hc1,hc0⟩
         ·
          have hcq:(c==1)=true:=by rw [beq_iff_eq];exact hc1
          have hqv:q=p+1:=by rw [HQ.out,if_pos (.inl hc1)]
          clear hc1
          go_upto_region 20 with fail
          rw [show(p:Int)+1=(q:Int)by omega]
          clear hqv
          by_cases hW31:2147483648<W
          ·
           have hWI:(2147483648:Int)<(W:Int):=by omega
           have HF:=Lib.hid (show readOf l=(0,3)by rw [HPW.out,if_pos (.inl hW31)])
           clear hcq
           go_wp2_with fail
           go_ret2
           exact⟨by rw [HF.out];rfl,HB2.out⟩
          ·
           have hWI:¬(2147483648:Int)<(W:Int):=by omega
           obtain⟨U,hU⟩:∃U,U=W*4294967296+q:=⟨_,rfl⟩
           have hUI:(W:Int)*4294967296+(q:Int)=(U:Int):=by omega
           rw [←hU]at HPW
           have hUl:U≤9223372041149743104:=by omega
           clear hU
           by_cases hR:9223372036854775808<U
           ·
            have hRI:(9223372036854775808:Int)<(U:Int):=by omega
            have HF:=Lib.hid (show readOf l=(0,3)by rw [HPW.out,if_pos (.inr (.inr hR))])
            clear hcq
            go_wp2_with fail
            go_ret2
            exact⟨by rw [HF.out];rfl,HB2.out⟩
           ·
            have hRI:¬(9223372036854775808:Int)<(U:Int):=by omega
            have HF:=Lib.hid (show readOf l=(-(U:Int),0)by rw [HPW.out,if_neg (by rintro(h|h|h);exact hW31 h;cases h.1;exact hR h)];rfl)
            have hN:wrap64 (IntKind.u64.wrap (-(U:Int)))= -(U:Int):=by rw [u64wrap];unfold wrap64;omega
            have HRIN:=Lib.hid hR
            clear hcq hR hW31
            go_wp2_with fail
            go_ret2
            exact⟨by rw [HF.out];rfl,HB2.out⟩
         ·
          have hcq:(c==1)=false:=by rw [beq_eq_false_iff_ne];exact hc1
          have hcz:(c==0)=true:=by rw [beq_iff_eq];exact hc0
          have hqv:q=p:=by rw [HQ.out,if_neg (fun h=>h.elim hc1 (fun h2=>absurd h2.2 (by decide)))]
          clear hc1 hc0
          go_upto_region 20 with fail
          rw [show(p:Int)=(q:Int)by omega]
          clear hqv
          by_cases hW31:2147483648<W
          ·
           have hWI:(2147483648:Int)<(W:Int):=by omega
           have HF:=Lib.hid (show readOf l=(0,3)by rw [HPW.out,if_pos (.inl hW31)])
           clear hcq
           go_wp2_with fail
           go_ret2
           exact⟨by rw [HF.out];rfl,HB2.out⟩
          ·
           have hWI:¬(2147483648:Int)<(W:Int):=by omega
           obtain⟨U,hU⟩:∃U,U=W*4294967296+q:=⟨_,rfl⟩
           have hUI:(W:Int)*4294967296+(q:Int)=(U:Int):=by omega
           rw [←hU]at HPW
           have hUl:U≤9223372041149743104:=by omega
           clear hU
           by_cases hR:9223372036854775808<U
           ·
            have hRI:(9223372036854775808:Int)<(U:Int):=by omega
            have HF:=Lib.hid (show readOf l=(0,3)by rw [HPW.out,if_pos (.inr (.inr hR))])
            clear hcq
            go_wp2_with fail
            go_ret2
            exact⟨by rw [HF.out];rfl,HB2.out⟩
           ·
            have hRI:¬(9223372036854775808:Int)<(U:Int):=by omega
            have HF:=Lib.hid (show readOf l=(-(U:Int),0)by rw [HPW.out,if_neg (by rintro(h|h|h);exact hW31 h;cases h.1;exact hR h)];rfl)
            have hN:wrap64 (IntKind.u64.wrap (-(U:Int)))= -(U:Int):=by rw [u64wrap];unfold wrap64;omega
            have HRIN:=Lib.hid hR
            clear hcq hR hW31
            go_wp2_with fail
            go_ret2
            exact⟨by rw [HF.out];rfl,HB2.out⟩
         ·
          have hcq:(c==1)=false:=by rw [beq_eq_false_iff_ne];exact hc1
          have hcz:(c==0)=false:=by rw [beq_eq_false_iff_ne];exact hc0
          have hqv:q=p:=by rw [HQ.out,if_neg (fun h=>h.elim hc1 (fun h2=>hc0 h2.1))]
          clear hc1 hc0
          go_upto_region 20 with fail
          rw [show(p:Int)=(q:Int)by omega]
          clear hqv
          by_cases hW31:2147483648<W
          ·
           have hWI:(2147483648:Int)<(W:Int):=by omega
           have HF:=Lib.hid (show readOf l=(0,3)by rw [HPW.out,if_pos (.inl hW31)])
           clear hcq
           go_wp2_with fail
           go_ret2
           exact⟨by rw [HF.out];rfl,HB2.out⟩
          ·
           have hWI:¬(2147483648:Int)<(W:Int):=by omega
           obtain⟨U,hU⟩:∃U,U=W*4294967296+q:=⟨_,rfl⟩
           have hUI:(W:Int)*4294967296+(q:Int)=(U:Int):=by omega
           rw [←hU]at HPW
           have hUl:U≤9223372041149743104:=by omega
           clear hU
           by_cases hR:9223372036854775808<U
           ·
            have hRI:(9223372036854775808:Int)<(U:Int):=by omega
            have HF:=Lib.hid (show readOf l=(0,3)by rw [HPW.out,if_pos (.inr (.inr hR))])
            clear hcq
            go_wp2_with fail
            go_ret2
            exact⟨by rw [HF.out];rfl,HB2.out⟩
           ·
            have hRI:¬(9223372036854775808:Int)<(U:Int):=by omega
            have HF:=Lib.hid (show readOf l=(-(U:Int),0)by rw [HPW.out,if_neg (by rintro(h|h|h);exact hW31 h;cases h.1;exact hR h)];rfl)
            have hN:wrap64 (IntKind.u64.wrap (-(U:Int)))= -(U:Int):=by rw [u64wrap];unfold wrap64;omega
            have HRIN:=Lib.hid hR
            clear hcq hR hW31
            go_wp2_with fail
            go_ret2
            exact⟨by rw [HF.out];rfl,HB2.out⟩
  ·
   have HRB:=Lib.hid (show readOf l=bodyOf false l by rw [HR.out,if_neg hneg];simp only [Bool.not_eq_true]at hneg;rw [hneg])
   have HTL:=HL
   have HTN:=HN
   obtain⟨x,hx⟩:∃x,l.getD 0 0=x:=⟨_,rfl⟩
   have hx45:¬x=45:=fun e=>hneg (by unfold negOf;rw [hx,e];rfl)
   have hx45':((x:Int)==45)=false:=by rw [beq_eq_false_iff_ne];omega
   by_cases hlp:0<l.length
   ·
    have he:S.toList.isEmpty=false:=by rw [HE.out,decide_eq_false (fun h=>by rw [h]at hlp;simp at hlp)]
    have hix:∀w,(Instr.index 9 (.string S) (.int .i64 0)).run Tryz.prog w=.ok (.int .u8 (x:Int)) w:=index0_strB HS.out HL.out hlp hx
    clear hneg hx45 hlp hx
    go_enter Tryz.func88,Tryz.ntmps88
    go_upto_region 7 with fail
    rw [HS.out]
    clear hix he
    go_wp2_with fail
    refine(cut_any l _ HTL.out (by have:=HTN.out;omega)).mono ?_
    rintro e w1 ⟨rfl,hb1⟩
    obtain⟨a,b,ok,hcut⟩:∃a b ok,cutOf l=(a,b,ok):=⟨_,_,_,rfl⟩
    have hcl:=cut_length l
    have HCA:=Lib.hid (cut_small HTL.out)
    rw [hcut]at hcl ⊢
    have HC0:=HCA.out
    rw [hcut]at HC0
    obtain⟨hca,hcb⟩:=HC0
    have HAL:=Lib.hid hca
    have HBL:=Lib.hid hcb
    have HCL:=Lib.hid (show a.length≤60∧b.length≤60 by have:=HTN.out;have h1:a.length≤l.length:=hcl.1;have h2:b.length≤l.length:=hcl.2;omega)
    have HCUT:=Lib.hid hcut
    have HB1:=Lib.hid hb1
    clear hcl hca hcb hcut hb1
    dsimp only
    obtain⟨SA,hSA⟩:∃SA,SA=strB a:=⟨_,rfl⟩
    obtain⟨SB,hSB⟩:∃SB,SB=strB b:=⟨_,rfl⟩
    have hza:SA.size=a.length:=by rw [hSA,strB_size]
    rw [←hSA,←hSB]
    have HSA:=Lib.hid hSA
    have HSB:=Lib.hid hSB
    have HZA:=Lib.hid hza
    clear hSA hSB hza
    cases ok with
    |false=>
     have HF:=Lib.hid (body_form (neg:=false) HCUT.out (.inl rfl))
     go_wp2_with fail
     go_ret2
     exact⟨by rw [HRB.out,HF.out];rfl,HB1.out⟩
    |true=>
     obtain⟨x,hx⟩:∃x,a.getD 0 0=x:=⟨_,rfl⟩
     have HX:=Lib.hid hx
     have HOK:=Lib.hid (cut_ok HCUT.out)
     have hapos:0<a.length:=List.length_pos_iff.2 HOK.out.1
     have HAP:=Lib.hid hapos
     by_cases hlead:1<a.length∧x=48
     ·
      have hs1:1<SA.size:=by rw [HZA.out];exact hlead.1
      have hix:∀w,(Instr.index 9 (.string SA) (.int .i64 0)).run Tryz.prog w=.ok (.int .u8 48) w:=index0_strB HSA.out HAL.out hapos (by rw [hx];exact hlead.2)
      have HF:=Lib.hid (body_form (neg:=false) HCUT.out (.inr ⟨hlead.1,by rw [hx];exact hlead.2⟩))
      clear hlead hx hapos
      go_wp2_with fail
      go_ret2
      exact⟨by rw [HRB.out,HF.out];rfl,HB1.out⟩
     ·
      have HNL:=Lib.hid (show ¬(1<a.length∧a.getD 0 0=48)by rw [hx];exact hlead)
      have hgo:(¬1<SA.size)∨(1<SA.size∧((x:Int)==48)=false):=by
       rw [HZA.out]
       by_cases h1:1<a.length
       · right;exact⟨h1,by rw [beq_eq_false_iff_ne];intro e;exact hlead ⟨h1,by omega⟩⟩
       · left;exact h1
      have hix:∀w,(Instr.index 9 (.string SA) (.int .i64 0)).run Tryz.prog w=.ok (.int .u8 (x:Int)) w:=index0_strB HSA.out HAL.out hapos hx
      have HIX:=Lib.hid hix
      have hzl:=HZA.out
      clear hlead hx hapos hix
      have hstep:True:=trivial
      rcases hgo with hs1|⟨hs1,hx48⟩
      ·
       go_upto_region 10 with fail
       by_cases hl10:10<a.length
       ·
        have hs10:10<SA.size:=by rw [HZA.out];exact hl10
        have HF:=Lib.hid (body_long (neg:=false) HCUT.out HNL.out hl10)
        clear hl10 hzl
        go_wp2_with fail
        all_goals
         go_ret2
         exact⟨by rw [HRB.out,HF.out];rfl,HB1.out⟩
       ·
        have hs10:¬10<SA.size:=by rw [HZA.out];exact hl10
        obtain⟨n,hn⟩:∃n,n=a.length:=⟨_,rfl⟩
        rw [←hn]at hzl hl10
        have HNA:=Lib.hid hn
        have HZN:=Lib.hid hzl
        clear hn
        go_upto_region 14 with fail
        go_loopw [9,10] (fun u i wr=>∃k:Nat,k≤n∧i=.int .i64 (k:Int)∧u=.int .u64 (num (a.take k):Nat)∧wr=w1) (fun _ i _=>n-(intOf i).toNat)
        case atStart=>exact⟨0,by omega,rfl,rfl,rfl⟩
        case round=>
         obtain⟨k,hk,rfl,rfl,rfl⟩:=hrel
         have hlt10:=num_take_lt HOK.out.2.1 k
         have hpk:10 ^ k≤10 ^ 10:=Nat.pow_le_pow_right (by omega) (by omega)
         have hW:num (a.take k)<10000000000:=by omega
         clear hlt10 hpk
         by_cases hlt:k<n
         ·
          have hka:k<a.length:=by rw [←HNA.out];exact hlt
          have hks:k<SA.size:=by omega
          obtain⟨y,hy⟩:∃y,a.getD k 0=y:=⟨_,rfl⟩
          have hyd:48≤y∧y≤57:=of_decide_eq_true (show dg y=true from(List.all_eq_true.1 HOK.out.2.1) y (by rw [←hy];exact mem_getD hka))
          have hixk:∀w,(Instr.index 9 (.string SA) (.int .i64 (k:Int))).run Tryz.prog w=.ok (.int .u8 (y:Int)) w:=index_strB HSA.out HAL.out hka hy rfl
          have HNT:=Lib.hid (num_take a k hka)
          rw [hy]at HNT
          have e1:(y:Int)-48=((y-48:Nat):Int):=by omega
          have hz9:y-48<10:=by omega
          generalize y-48=z at e1 hz9 HNT
          generalize num (a.take k)=W at hW HNT ⊢
          clear hy hka
          go_wp2_with fail
          exact⟨⟨k+1,by omega,by go_num,by rw [HNT.out];go_num,trivial⟩,by simp [intOf];omega⟩
         ·
          have e:k=n:=by omega
          have hge:¬k<SA.size:=by omega
          rw [show num (a.take k)=num a by rw [e,HNA.out,List.take_length]]at hW ⊢
          clear hlt e
          go_upto_region 17 with fail
          have HFA:=Lib.hid (fraction_any b wr HOK.out.2.2 (by have:=HCL.out.2;omega))
          have hfa:=HFA.out
          rw [←HSB.out]at hfa
          have HFA:=Lib.hid hfa
          clear hfa
          go_wp2_with fail
          refine HFA.out.mono ?_
          rintro e w2 ⟨⟨p,r,rfl,hfr⟩,hb2⟩
          have HFR:=Lib.hid hfr
          have HB2:=Lib.hid (onward HB1.out (Nat.le_refl _) hb2)
          have hpl:p<4294967296:=hfr.lt_pow (num_lt HOK.out.2.2)
          have HPV:=Lib.hid (show readOf l=progOf false (num a) p (half (10 ^ b.length) r)by
           rw [HRB.out,body_val HCUT.out HNL.out,prog_val false (num a) (num b) b.length p r hfr])
          clear hfr hb2 HFA
          generalize half (10 ^ b.length) r=c at HPV ⊢
          generalize num a=W at hW HPV ⊢
          obtain⟨q,hq⟩:∃q,q=(if c=1∨(c=0∧false=false)then p+1 else p):=⟨_,rfl⟩
          have HQ:=Lib.hid hq
          have hql:q≤4294967296:=by rw [hq];split<;>omega
          have HPW:=Lib.hid (show readOf l=if 2147483648<W∨(false=false∧9223372036854775807<W*4294967296+q)∨9223372036854775808<W*4294967296+q then(0,3)else(if false then-((W*4294967296+q:Nat):Int)else((W*4294967296+q:Nat):Int),0)by rw [HPV.out,hq];rfl)
          have hcase:(c=1)∨(¬c=1∧c=0)∨(¬c=1∧¬c=0):=by omega
          clear hq
          rcases hcase with hc1|⟨hc1,hc0⟩|⟨hc1,hc0⟩
          ·
           have hcq:(c==1)=true:=by rw [beq_iff_eq];exact hc1
           have hqv:q=p+1:=by rw [HQ.out,if_pos (.inl hc1)]
           clear hc1
           go_upto_region 20 with fail
           rw [show(p:Int)+1=(q:Int)by omega]
           clear hqv
           by_cases hW31:2147483648<W
           ·
            have hWI:(2147483648:Int)<(W:Int):=by omega
            have HF:=Lib.hid (show readOf l=(0,3)by rw [HPW.out,if_pos (.inl hW31)])
            clear hcq
            go_wp2_with fail
            go_ret2
            exact⟨by rw [HF.out];rfl,HB2.out⟩
           ·
            have hWI:¬(2147483648:Int)<(W:Int):=by omega
            obtain⟨U,hU⟩:∃U,U=W*4294967296+q:=⟨_,rfl⟩
            have hUI:(W:Int)*4294967296+(q:Int)=(U:Int):=by omega
            rw [←hU]at HPW
            have hUl:U≤9223372041149743104:=by omega
            clear hU
            by_cases hR:9223372036854775807<U
            ·
             have hRI:(9223372036854775807:Int)<(U:Int):=by omega
             have HF:=Lib.hid (show readOf l=(0,3)by rw [HPW.out,if_pos (.inr (.inl ⟨by first|rfl|trivial,hR⟩))])
             clear hcq
             go_wp2_with fail
             go_ret2
             exact⟨by rw [HF.out];rfl,HB2.out⟩
            ·
             have hRI:¬(9223372036854775807:Int)<(U:Int):=by omega
             have hRJ:¬(9223372036854775808:Int)<(U:Int):=by omega
             have HF:=Lib.hid (show readOf l=((U:Int),0)by rw [HPW.out,if_neg (by rintro(h|h|h);exact hW31 h;exact hR h.2;omega)];rfl)
             have HRIN:=Lib.hid hR
             clear hcq hR hW31
             go_wp2_with fail
             go_ret2
             exact⟨by rw [HF.out];rfl,HB2.out⟩
          ·
           have hcq:(c==1)=false:=by rw [beq_eq_false_iff_ne];exact hc1
           have hcz:(c==0)=true:=by rw [beq_iff_eq];exact hc0
           have hqv:q=p+1:=by rw [HQ.out,if_pos (.inr ⟨hc0,rfl⟩)]
           clear hc1 hc0
           go_upto_region 20 with fail
           rw [show(p:Int)+1=(q:Int)by omega]
           clear hqv
           by_cases hW31:2147483648<W
           ·
            have hWI:(2147483648:Int)<(W:Int):=by omega
            have HF:=Lib.hid (show readOf l=(0,3)by rw [HPW.out,if_pos (.inl hW31)])
            clear hcq
            go_wp2_with fail
            go_ret2
            exact⟨by rw [HF.out];rfl,HB2.out⟩
           ·
            have hWI:¬(2147483648:Int)<(W:Int):=by omega
            obtain⟨U,hU⟩:∃U,U=W*4294967296+q:=⟨_,rfl⟩
            have hUI:(W:Int)*4294967296+(q:Int)=(U:Int):=by omega
            rw [←hU]at HPW
            have hUl:U≤9223372041149743104:=by omega
            clear hU
            by_cases hR:9223372036854775807<U
            ·
             have hRI:(9223372036854775807:Int)<(U:Int):=by omega
             have HF:=Lib.hid (show readOf l=(0,3)by rw [HPW.out,if_pos (.inr (.inl ⟨by first|rfl|trivial,hR⟩))])
             clear hcq
             go_wp2_with fail
             go_ret2
             exact⟨by rw [HF.out];rfl,HB2.out⟩
            ·
             have hRI:¬(9223372036854775807:Int)<(U:Int):=by omega
             have hRJ:¬(9223372036854775808:Int)<(U:Int):=by omega
             have HF:=Lib.hid (show readOf l=((U:Int),0)by rw [HPW.out,if_neg (by rintro(h|h|h);exact hW31 h;exact hR h.2;omega)];rfl)
             have HRIN:=Lib.hid hR
             clear hcq hR hW31
             go_wp2_with fail
             go_ret2
             exact⟨by rw [HF.out];rfl,HB2.out⟩
          ·
           have hcq:(c==1)=false:=by rw [beq_eq_false_iff_ne];exact hc1
           have hcz:(c==0)=false:=by rw [beq_eq_false_iff_ne];exact hc0
           have hqv:q=p:=by rw [HQ.out,if_neg (fun h=>h.elim hc1 (fun h2=>hc0 h2.1))]
           clear hc1 hc0
           go_upto_region 20 with fail
           rw [show(p:Int)=(q:Int)by omega]
           clear hqv
           by_cases hW31:2147483648<W
           ·
            have hWI:(2147483648:Int)<(W:Int):=by omega
            have HF:=Lib.hid (show readOf l=(0,3)by rw [HPW.out,if_pos (.inl hW31)])
            clear hcq
            go_wp2_with fail
            go_ret2
            exact⟨by rw [HF.out];rfl,HB2.out⟩
           ·
            have hWI:¬(2147483648:Int)<(W:Int):=by omega
            obtain⟨U,hU⟩:∃U,U=W*4294967296+q:=⟨_,rfl⟩
            have hUI:(W:Int)*4294967296+(q:Int)=(U:Int):=by omega
            rw [←hU]at HPW
            have hUl:U≤9223372041149743104:=by omega
            clear hU
            by_cases hR:9223372036854775807<U
            ·
             have hRI:(9223372036854775807:Int)<(U:Int):=by omega
             have HF:=Lib.hid (show readOf l=(0,3)by rw [HPW.out,if_pos (.inr (.inl ⟨by first|rfl|trivial,hR⟩))])
             clear hcq
             go_wp2_with fail
             go_ret2
             exact⟨by rw [HF.out];rfl,HB2.out⟩
            ·
             have hRI:¬(9223372036854775807:Int)<(U:Int):=by omega
             have hRJ:¬(9223372036854775808:Int)<(U:Int):=by omega
             have HF:=Lib.hid (show readOf l=((U:Int),0)by rw [HPW.out,if_neg (by rintro(h|h|h);exact hW31 h;exact hR h.2;omega)];rfl)
             have HRIN:=Lib.hid hR
             clear hcq hR hW31
             go_wp2_with fail
             go_ret2
             exact⟨by rw [HF.out];rfl,HB2.out⟩
      ·
       have hix:=HIX.out
       go_upto_region 10 with fail
       clear hix hx48
       by_cases hl10:10<a.length
       ·
        have hs10:10<SA.size:=by rw [HZA.out];exact hl10
        have HF:=Lib.hid (body_long (neg:=false) HCUT.out HNL.out hl10)
        clear hl10 hzl
        go_wp2_with fail
        all_goals
         go_ret2
         exact⟨by rw [HRB.out,HF.out];rfl,HB1.out⟩
       ·
        have hs10:¬10<SA.size:=by rw [HZA.out];exact hl10
        obtain⟨n,hn⟩:∃n,n=a.length:=⟨_,rfl⟩
        rw [←hn]at hzl hl10
        have HNA:=Lib.hid hn
        have HZN:=Lib.hid hzl
        clear hn
        go_upto_region 14 with fail
        go_loopw [9,10] (fun u i wr=>∃k:Nat,k≤n∧i=.int .i64 (k:Int)∧u=.int .u64 (num (a.take k):Nat)∧wr=w1) (fun _ i _=>n-(intOf i).toNat)
        case atStart=>exact⟨0,by omega,rfl,rfl,rfl⟩
        case round=>
         obtain⟨k,hk,rfl,rfl,rfl⟩:=hrel
         have hlt10:=num_take_lt HOK.out.2.1 k
         have hpk:10 ^ k≤10 ^ 10:=Nat.pow_le_pow_right (by omega) (by omega)
         have hW:num (a.take k)<10000000000:=by omega
         clear hlt10 hpk
         by_cases hlt:k<n
         ·
          have hka:k<a.length:=by rw [←HNA.out];exact hlt
          have hks:k<SA.size:=by omega
          obtain⟨y,hy⟩:∃y,a.getD k 0=y:=⟨_,rfl⟩
          have hyd:48≤y∧y≤57:=of_decide_eq_true (show dg y=true from(List.all_eq_true.1 HOK.out.2.1) y (by rw [←hy];exact mem_getD hka))
          have hixk:∀w,(Instr.index 9 (.string SA) (.int .i64 (k:Int))).run Tryz.prog w=.ok (.int .u8 (y:Int)) w:=index_strB HSA.out HAL.out hka hy rfl
          have HNT:=Lib.hid (num_take a k hka)
          rw [hy]at HNT
          have e1:(y:Int)-48=((y-48:Nat):Int):=by omega
          have hz9:y-48<10:=by omega
          generalize y-48=z at e1 hz9 HNT
          generalize num (a.take k)=W at hW HNT ⊢
          clear hy hka
          go_wp2_with fail
          exact⟨⟨k+1,by omega,by go_num,by rw [HNT.out];go_num,trivial⟩,by simp [intOf];omega⟩
         ·
          have e:k=n:=by omega
          have hge:¬k<SA.size:=by omega
          rw [show num (a.take k)=num a by rw [e,HNA.out,List.take_length]]at hW ⊢
          clear hlt e
          go_upto_region 17 with fail
          have HFA:=Lib.hid (fraction_any b wr HOK.out.2.2 (by have:=HCL.out.2;omega))
          have hfa:=HFA.out
          rw [←HSB.out]at hfa
          have HFA:=Lib.hid hfa
          clear hfa
          go_wp2_with fail
          refine HFA.out.mono ?_
          rintro e w2 ⟨⟨p,r,rfl,hfr⟩,hb2⟩
          have HFR:=Lib.hid hfr
          have HB2:=Lib.hid (onward HB1.out (Nat.le_refl _) hb2)
          have hpl:p<4294967296:=hfr.lt_pow (num_lt HOK.out.2.2)
          have HPV:=Lib.hid (show readOf l=progOf false (num a) p (half (10 ^ b.length) r)by
           rw [HRB.out,body_val HCUT.out HNL.out,prog_val false (num a) (num b) b.length p r hfr])
          clear hfr hb2 HFA
          generalize half (10 ^ b.length) r=c at HPV ⊢
          generalize num a=W at hW HPV ⊢
          obtain⟨q,hq⟩:∃q,q=(if c=1∨(c=0∧false=false)then p+1 else p):=⟨_,rfl⟩
          have HQ:=Lib.hid hq
          have hql:q≤4294967296:=by rw [hq];split<;>omega
          have HPW:=Lib.hid (show readOf l=if 2147483648<W∨(false=false∧9223372036854775807<W*4294967296+q)∨9223372036854775808<W*4294967296+q then(0,3)else(if false then-((W*4294967296+q:Nat):Int)else((W*4294967296+q:Nat):Int),0)by rw [HPV.out,hq];rfl)
          have hcase:(c=1)∨(¬c=1∧c=0)∨(¬c=1∧¬c=0):=by omega
          clear hq
          rcases hcase with hc1|⟨hc1,hc0⟩|⟨hc1,hc0⟩
          ·
           have hcq:(c==1)=true:=by rw [beq_iff_eq];exact hc1
           have hqv:q=p+1:=by rw [HQ.out,if_pos (.inl hc1)]
           clear hc1
           go_upto_region 20 with fail
           rw [show(p:Int)+1=(q:Int)by omega]
           clear hqv
           by_cases hW31:2147483648<W
           ·
            have hWI:(2147483648:Int)<(W:Int):=by omega
            have HF:=Lib.hid (show readOf l=(0,3)by rw [HPW.out,if_pos (.inl hW31)])
            clear hcq
            go_wp2_with fail
            go_ret2
            exact⟨by rw [HF.out];rfl,HB2.out⟩
           ·
            have hWI:¬(2147483648:Int)<(W:Int):=by omega
            obtain⟨U,hU⟩:∃U,U=W*4294967296+q:=⟨_,rfl⟩
            have hUI:(W:Int)*4294967296+(q:Int)=(U:Int):=by omega
            rw [←hU]at HPW
            have hUl:U≤9223372041149743104:=by omega
            clear hU
            by_cases hR:9223372036854775807<U
            ·
             have hRI:(9223372036854775807:Int)<(U:Int):=by omega
             have HF:=Lib.hid (show readOf l=(0,3)by rw [HPW.out,if_pos (.inr (.inl ⟨by first|rfl|trivial,hR⟩))])
             clear hcq
             go_wp2_with fail
             go_ret2
             exact⟨by rw [HF.out];rfl,HB2.out⟩
            ·
             have hRI:¬(9223372036854775807:Int)<(U:Int):=by omega
             have hRJ:¬(9223372036854775808:Int)<(U:Int):=by omega
             have HF:=Lib.hid (show readOf l=((U:Int),0)by rw [HPW.out,if_neg (by rintro(h|h|h);exact hW31 h;exact hR h.2;omega)];rfl)
             have HRIN:=Lib.hid hR
             clear hcq hR hW31
             go_wp2_with fail
             go_ret2
             exact⟨by rw [HF.out];rfl,HB2.out⟩
          ·
           have hcq:(c==1)=false:=by rw [beq_eq_false_iff_ne];exact hc1
           have hcz:(c==0)=true:=by rw [beq_iff_eq];exact hc0
           have hqv:q=p+1:=by rw [HQ.out,if_pos (.inr ⟨hc0,rfl⟩)]
           clear hc1 hc0
           go_upto_region 20 with fail
           rw [show(p:Int)+1=(q:Int)by omega]
           clear hqv
           by_cases hW31:2147483648<W
           ·
            have hWI:(2147483648:Int)<(W:Int):=by omega
            have HF:=Lib.hid (show readOf l=(0,3)by rw [HPW.out,if_pos (.inl hW31)])
            clear hcq
            go_wp2_with fail
            go_ret2
            exact⟨by rw [HF.out];rfl,HB2.out⟩
           ·
            have hWI:¬(2147483648:Int)<(W:Int):=by omega
            obtain⟨U,hU⟩:∃U,U=W*4294967296+q:=⟨_,rfl⟩
            have hUI:(W:Int)*4294967296+(q:Int)=(U:Int):=by omega
            rw [←hU]at HPW
            have hUl:U≤9223372041149743104:=by omega
            clear hU
            by_cases hR:9223372036854775807<U
            ·
             have hRI:(9223372036854775807:Int)<(U:Int):=by omega
             have HF:=Lib.hid (show readOf l=(0,3)by rw [HPW.out,if_pos (.inr (.inl ⟨by first|rfl|trivial,hR⟩))])
             clear hcq
             go_wp2_with fail
             go_ret2
             exact⟨by rw [HF.out];rfl,HB2.out⟩
            ·
             have hRI:¬(9223372036854775807:Int)<(U:Int):=by omega
             have hRJ:¬(9223372036854775808:Int)<(U:Int):=by omega
             have HF:=Lib.hid (show readOf l=((U:Int),0)by rw [HPW.out,if_neg (by rintro(h|h|h);exact hW31 h;exact hR h.2;omega)];rfl)
             have HRIN:=Lib.hid hR
             clear hcq hR hW31
             go_wp2_with fail
             go_ret2
             exact⟨by rw [HF.out];rfl,HB2.out⟩
          ·
           have hcq:(c==1)=false:=by rw [beq_eq_false_iff_ne];exact hc1
           have hcz:(c==0)=false:=by rw [beq_eq_false_iff_ne];exact hc0
           have hqv:q=p:=by rw [HQ.out,if_neg (fun h=>h.elim hc1 (fun h2=>hc0 h2.1))]
           clear hc1 hc0
           go_upto_region 20 with fail
           rw [show(p:Int)=(q:Int)by omega]
           clear hqv
           by_cases hW31:2147483648<W
           ·
            have hWI:(2147483648:Int)<(W:Int):=by omega
            have HF:=Lib.hid (show readOf l=(0,3)by rw [HPW.out,if_pos (.inl hW31)])
            clear hcq
            go_wp2_with fail
            go_ret2
            exact⟨by rw [HF.out];rfl,HB2.out⟩
           ·
            have hWI:¬(2147483648:Int)<(W:Int):=by omega
            obtain⟨U,hU⟩:∃U,U=W*4294967296+q:=⟨_,rfl⟩
            have hUI:(W:Int)*4294967296+(q:Int)=(U:Int):=by omega
            rw [←hU]at HPW
            have hUl:U≤9223372041149743104:=by omega
            clear hU
            by_cases hR:9223372036854775807<U
            ·
             have hRI:(9223372036854775807:Int)<(U:Int):=by omega
             have HF:=Lib.hid (show readOf l=(0,3)by rw [HPW.out,if_pos (.inr (.inl ⟨by first|rfl|trivial,hR⟩))])
             clear hcq
             go_wp2_with fail
             go_ret2
             exact⟨by rw [HF.out];rfl,HB2.out⟩
            ·
             have hRI:¬(9223372036854775807:Int)<(U:Int):=by omega
             have hRJ:¬(9223372036854775808:Int)<(U:Int):=by omega
             have HF:=Lib.hid (show readOf l=((U:Int),0)by rw [HPW.out,if_neg (by rintro(h|h|h);exact hW31 h;exact hR h.2;omega)];rfl)
             have HRIN:=Lib.hid hR
             clear hcq hR hW31
             go_wp2_with fail
             go_ret2
             exact⟨by rw [HF.out];rfl,HB2.out⟩
   ·
    have hl0:l=[]:=List.eq_nil_of_length_eq_zero (by omega)
    have he:S.toList.isEmpty=true:=by rw [HE.out,decide_eq_true hl0]
    have HF:=Lib.hid (show readOf l=(0,2)by rw [HRB.out,hl0];exact body_form (a:=[]) (b:=[]) (ok:=false) rfl (.inl rfl))
    have HQ:=Lib.hid (cut_any l w HL.out (by omega))
    have hq:=HQ.out
    rw [←HS.out]at hq
    have HQ2:=Lib.hid (show cutOf l=([],[],false)by rw [hl0];rfl)
    rw [HQ2.out]at hq
    have HQ3:=Lib.hid hq
    clear hneg hx45 hlp hx hl0 hq HQ
    go_enter Tryz.func88,Tryz.ntmps88
    go_wp2_with fail
    refine HQ3.out.mono ?_
    rintro e w1 ⟨rfl,hb1⟩
    go_wp2_with fail
    go_ret2
    exact⟨by rw [HF.out];rfl,hb1⟩
end Tx
end Go.Proofs.YtljpoibnkkcjdaaGreatDoor
