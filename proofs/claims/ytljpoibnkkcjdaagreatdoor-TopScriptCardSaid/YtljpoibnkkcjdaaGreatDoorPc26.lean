import Derived.Test.YtljpoibnkkcjdaaGreatDoorPc25
set_option linter.unusedVariables false
set_option linter.unusedSimpArgs false
namespace Go.Proofs.YtljpoibnkkcjdaaGreatDoor
namespace Tx
open Go.RowKit Mem Rws Sm ReadLaw
theorem index_strB {s:ByteArray} {l:List Nat} {m x:Nat} {z:Int} (hs:s=strB l) (hl:∀y∈l,y<256) (hm:m<l.length) (hx:l.getD m 0=x) (hz:z=(x:Int)) (w:World):(Instr.index 9 (.string s) (.int .i64 (m:Int))).run Tryz.prog w=.ok (.int .u8 z) w:=by
 subst hs
 subst hz
 have hsz:=strB_size l
 have hk:0≤(m:Int)∧(m:Int)<((strB l).size:Int):=by omega
 rw [run_index_string w 9 (strB l) .i64 (m:Int) Tryz.underlying9,dif_pos hk]
 have h2:=strB_get l m (by omega) hl
 rw [hx]at h2
 simp only [Int.toNat_natCast]
 rw [h2]
theorem take_succ_getD (l:List Nat) (k:Nat) (h:k<l.length):l.take (k+1)=l.take k++[l.getD k 0]:=by
 rw [List.take_add_one,List.getD_eq_getElem?_getD,List.getElem?_eq_getElem h];rfl
theorem strB_empty (l:List Nat):(strB l).toList.isEmpty=decide (l=[]):=by
 rw [ByteArray.toList_eq,strB_data]
 cases l<;>simp
theorem digits_any (l:List Nat) (w:World) (hl:∀y∈l,y<256) (hn:l.length≤100):
  Calls Tryz.prog 129 #[.string (strB l)] w fun e w'=>e=.returned (.bool (digitsOf l))∧w=w':=by
 obtain⟨S,hS⟩:∃S,S=strB l:=⟨_,rfl⟩
 obtain⟨n,hnn⟩:∃n,n=l.length:=⟨_,rfl⟩
 have hsz:S.size=n:=by rw [hS,strB_size,hnn]
 rw [←hS]
 have HS:=Lib.hid hS
 have HL:=Lib.hid hl
 have HN:=Lib.hid hnn
 have HNN:=Lib.hid (show n≤100 by omega)
 have HZ:=Lib.hid hsz
 clear hS hl hnn hn hsz
 go_enter Tryz.func129,Tryz.ntmps129
 go_upto_region 2 with fail
 go_loopw [3] (fun i wr=>∃k:Nat,k≤n∧i=.int .i64 (k:Int)∧(l.take k).all dg=true∧wr=w) (fun i _=>200-(intOf i).toNat)
 case atStart=>exact⟨0,by omega,rfl,rfl,rfl⟩
 case round=>
  obtain⟨k,hk,rfl,hd,rfl⟩:=hrel
  have HD:=Lib.hid hd
  clear hd
  by_cases hlt:k<n
  ·
   have hlt2:k<S.size:=by rw [HZ.out];exact hlt
   obtain⟨x,hx⟩:∃x,l.getD k 0=x:=⟨_,rfl⟩
   have hmem:x∈l:=by
    have hkl:k<l.length:=by rw [←HN.out];exact hlt
    rw [←hx,List.getD_eq_getElem?_getD,List.getElem?_eq_getElem hkl];exact List.getElem_mem hkl
   have hx256:=HL.out x hmem
   have HT:=Lib.hid (take_succ_getD l k (by rw [←HN.out];exact hlt))
   rw [hx]at HT
   have HK:=Lib.hid (show k+1≤n∧k<200 by have:=HNN.out;omega)
   have hix:∀w,(Instr.index 9 (.string S) (.int .i64 (k:Int))).run Tryz.prog w=.ok (.int .u8 (x:Int)) w:=index_strB HS.out HL.out (by rw [←HN.out];exact hlt) hx rfl
   have HX:=Lib.hid hx
   have HM:=Lib.hid hmem
   clear hx hmem
   by_cases hdx:dg x=true
   ·
    have h1:=of_decide_eq_true hdx
    have HA:=Lib.hid (show(l.take (k+1)).all dg=true by rw [HT.out,List.all_append,HD.out];simp [hdx])
    have a1:¬(x:Int)<48:=by omega
    have a2:¬57<(x:Int):=by omega
    have a3:¬x<48:=by omega
    have a4:¬57<x:=by omega
    have hk2:k<200:=HK.out.2
    clear hdx h1
    go_wp2_with fail
    have h2:=HK.out
    exact⟨⟨k+1,h2.1,by go_num,HA.out,trivial⟩,by simp [intOf];omega⟩
   ·
    have h1:¬(48≤x∧x≤57):=fun h=>hdx (decide_eq_true h)
    have HF:=Lib.hid (show digitsOf l=false by
     unfold digitsOf
     rw [Bool.and_eq_false_iff];right
     rw [List.all_eq_false]
     exact⟨x,HM.out,hdx⟩)
    by_cases hb:x<48
    ·
     have a1:(x:Int)<48:=by omega
     clear hdx h1
     go_wp2_with fail
     go_ret
     exact⟨by rw [HF.out];rfl,rfl⟩
    ·
     have a1:¬(x:Int)<48:=by omega
     have a2:57<(x:Int):=by omega
     have a4:57<x:=by omega
     clear hdx h1
     go_wp2_with fail
     go_ret
     exact⟨by rw [HF.out];rfl,rfl⟩
  ·
   have hge:¬k<S.size:=by rw [HZ.out];exact hlt
   have e:k=n:=by omega
   have HA:=Lib.hid (show l.all dg=true by have h:=HD.out;rwa [e,HN.out,List.take_length]at h)
   have HR:=Lib.hid (show digitsOf l= !S.toList.isEmpty by
    rw [HS.out,strB_empty]
    unfold digitsOf;rw [HA.out];simp)
   clear hlt e
   go_wp2_with fail
   go_ret
   exact⟨by rw [HR.out];rfl,rfl⟩
theorem cut_any (l:List Nat) (w:World) (hl:∀y∈l,y<256) (hn:l.length≤100):
  Calls Tryz.prog 111 #[.string (strB l)] w fun e w'=>e=.returned (.tuple #[.string (strB (cutOf l).1),.string (strB (cutOf l).2.1),.bool (cutOf l).2.2])∧Below w.heap.size w w':=by
 obtain⟨S,hS⟩:∃S,S=strB l:=⟨_,rfl⟩
 obtain⟨n,hnn⟩:∃n,n=l.length:=⟨_,rfl⟩
 have hsz:S.size=n:=by rw [hS,strB_size,hnn]
 rw [←hS]
 have HS:=Lib.hid hS
 have HL:=Lib.hid hl
 have HN:=Lib.hid hnn
 have HNN:=Lib.hid (show n≤100 by omega)
 have HZ:=Lib.hid hsz
 clear hS hl hnn hn hsz
 go_enter Tryz.func111,Tryz.ntmps111
 go_upto_region 2 with fail
 go_loopw [5] (fun i wr=>∃k:Nat,k≤n∧i=.int .i64 (k:Int)∧(∀c∈l.take k,c≠46)∧wr=w) (fun i _=>200-(intOf i).toNat)
 case atStart=>exact⟨0,by omega,rfl,by simp,rfl⟩
 case round=>
  obtain⟨k,hk,rfl,hd,rfl⟩:=hrel
  have HD:=Lib.hid hd
  clear hd
  by_cases hlt:k<n
  ·
   have hlt2:k<S.size:=by rw [HZ.out];exact hlt
   have hkl:k<l.length:=by rw [←HN.out];exact hlt
   obtain⟨x,hx⟩:∃x,l.getD k 0=x:=⟨_,rfl⟩
   have HT:=Lib.hid (take_succ_getD l k hkl)
   rw [hx]at HT
   have hk2:k<200:=by have:=HNN.out;omega
   have hix:∀w,(Instr.index 9 (.string S) (.int .i64 (k:Int))).run Tryz.prog w=.ok (.int .u8 (x:Int)) w:=index_strB HS.out HL.out hkl hx rfl
   by_cases h46:x=46
   ·
    subst h46
    have hsp:l=l.take k++46::l.drop (k+1):=by
     have e:l.drop k=46::l.drop (k+1):=by
      rw [List.drop_eq_getElem_cons hkl,←hx,List.getD_eq_getElem?_getD,List.getElem?_eq_getElem hkl];rfl
     rw [←e,List.take_append_drop]
    have HC:=Lib.hid (show cutOf l=(l.take k,l.drop (k+1),digitsOf (l.take k)&&digitsOf (l.drop (k+1)))by
     have h:=cut_some (a:=l.take k) (b:=l.drop (k+1)) HD.out
     rwa [←hsp]at h)
    have HA1:=Lib.hid (show S.extract 0 k=strB (l.take k)by rw [HS.out,strB_extract];simp)
    have HA2:=Lib.hid (show S.extract (k+1) S.size=strB (l.drop (k+1))by
     rw [HZ.out,HS.out,strB_extract,HN.out,List.take_of_length_le (by simp)])
    have HQ2:=Lib.hid (digits_any (l.drop (k+1)))
    have HLL:=Lib.hid (show(l.take k).length≤100∧(l.drop (k+1)).length≤100 by
     have:=HNN.out;have:=HN.out;simp;omega)
    have HM1:=Lib.hid (show ∀y∈l.take k,y<256 from fun y hy=>HL.out y (List.mem_of_mem_take hy))
    have HM2:=Lib.hid (show ∀y∈l.drop (k+1),y<256 from fun y hy=>HL.out y (List.mem_of_mem_drop hy))
    have hle:k≤S.size:=by omega
    have hle2:k+1≤S.size:=by omega
    clear hsp
    go_upto_region 5 with fail
    have hkw:wrap64 (k:Int)=(k:Int):=by unfold wrap64;omega
    have hkw2:wrap64 ((k:Int)+1)=(k:Int)+1:=by unfold wrap64;omega
    have hq1:=digits_any (l.take k)
    have HBW:=Lib.hid (show Below wr.heap.size wr wr.drew from⟨rfl,rfl,rfl,Nat.le_refl _,fun _ _=>rfl⟩)
    have hkw:wrap64 (k:Int)=(k:Int):=by unfold wrap64;omega
    obtain⟨k1,hk1⟩:∃k1,k1=k+1:=⟨_,rfl⟩
    rw [←hk1]at HA2 HQ2 HC HLL HM2 hle2
    have hkw2:IntKind.i64.wrap ((k:Int)+1)=(k1:Int):=by rw [hk1];simp [IntKind.wrap,IntKind.bits,IntKind.signed];omega
    clear hk1
    rw [←HA1.out]at hq1
    rw [←HA2.out]at HQ2
    clear hix
    cases hd1:digitsOf (l.take k)
    ·
     rw [hd1]at hq1
     rw [hd1,Bool.false_and]at HC
     have HQ1:=Lib.hid hq1
     clear hq1 hd1 HQ2
     refine wp_region_noPanic ?_
     refine Rg.beginR [] (fun _=>True) (by kernel_rfl) ?_
     refine Rg.tp 0 ⟨some 16,.move (.tmp 0),_,_,_,none⟩ (v:=?_) rfl ?_ ?_
     rotate_left 1
     · (intro w;go_simp;(try with_reducible rfl))
     try simp only [Rg.lp]
     refine Rg.tp 1 ⟨some 17,.move (.tmp 5),_,_,_,none⟩ (v:=?_) rfl ?_ ?_
     rotate_left 1
     · (intro w;go_simp;(try with_reducible rfl))
     try simp only [Rg.lp]
     refine Rg.tp 2 ⟨some 18,.slice 9 (.tmp 16) none (some (.tmp 17)) none,_,_,_,none⟩ (v:=.string (S.extract 0 k)) rfl ?_ ?_
     · (intro w;go_simp;(try with_reducible rfl))
     try simp only [Rg.lp]
     refine Rg.tp 3 ⟨some 19,.move (.tmp 0),_,_,_,none⟩ (v:=?_) rfl ?_ ?_
     rotate_left 1
     · (intro w;go_simp;(try with_reducible rfl))
     try simp only [Rg.lp]
     refine Rg.tp 4 ⟨some 20,.move (.tmp 5),_,_,_,none⟩ (v:=?_) rfl ?_ ?_
     rotate_left 1
     · (intro w;go_simp;(try with_reducible rfl))
     try simp only [Rg.lp]
     refine Rg.tp 5 ⟨some 21,.binOp .add 3 (.tmp 20) (.const (.int .i64 1)) 3,_,_,_,none⟩ (v:=.int .i64 (k1:Int)) rfl ?_ ?_
     · (intro w;go_simp)
     try simp only [Rg.lp]
     refine Rg.tp 6 ⟨some 22,.slice 9 (.tmp 19) (some (.tmp 21)) none none,_,_,_,none⟩ (v:=.string (S.extract k1 S.size)) rfl ?_ ?_
     · (intro w;go_simp;(try with_reducible rfl))
     try simp only [Rg.lp]
     refine Rg.tp 7 ⟨some 23,.move (.tmp 0),_,_,_,none⟩ (v:=?_) rfl ?_ ?_
     rotate_left 1
     · (intro w;go_simp;(try with_reducible rfl))
     try simp only [Rg.lp]
     refine Rg.tp 8 ⟨some 24,.move (.tmp 5),_,_,_,none⟩ (v:=?_) rfl ?_ ?_
     rotate_left 1
     · (intro w;go_simp;(try with_reducible rfl))
     try simp only [Rg.lp]
     refine Rg.tp 9 ⟨some 25,.slice 9 (.tmp 23) none (some (.tmp 24)) none,_,_,_,none⟩ (v:=.string (S.extract 0 k)) rfl ?_ ?_
     · (intro w;go_simp;(try with_reducible rfl))
     try simp only [Rg.lp]
     refine Rg.stp_o 10 ?_
     refine Rg.stepF ?_ ?_
     · kernel_rfl
     intro K hK
     rw [if_pos (by rfl)]
     go_simp
     go_at_call 129
     refine(HQ1.out _ HM1.out HLL.out.1).mono ?_
     rintro e w' ⟨rfl,rfl⟩
     dsimp only
     refine hK.out _ _ ?_
     clear hK K
     try simp only [Rg.lp]
     refine Rg.tp 11 ⟨some 27,.move (.tmp 26),_,_,_,none⟩ (v:=?_) rfl ?_ ?_
     rotate_left 1
     · (intro w;go_simp;(try with_reducible rfl))
     try simp only [Rg.lp]
     refine Rg.stp_n 12 ?_
     try simp only [Rg.lp]
     refine Rg.stp_n 13 ?_
     try simp only [Rg.lp]
     refine Rg.stp_n 14 ?_
     try simp only [Rg.lp]
     refine Rg.stp_n 15 ?_
     try simp only [Rg.lp]
     refine Rg.stp_n 16 ?_
     try simp only [Rg.lp]
     refine Rg.tp 17 ⟨some 33,.pick (.tmp 27) (.tmp 32) (.const (.bool false)),_,_,_,none⟩ (v:=?_) rfl ?_ ?_
     rotate_left 1
     · (intro w;go_simp;(try with_reducible rfl))
     try simp only [Rg.lp]
     refine Rg.tp 18 ⟨some 2,.assign (.tmp 18),_,_,_,none⟩ (v:=?_) rfl ?_ ?_
     rotate_left 1
     · (intro w;go_simp;(try with_reducible rfl))
     try simp only [Rg.lp]
     refine Rg.tp 19 ⟨some 3,.assign (.tmp 22),_,_,_,none⟩ (v:=?_) rfl ?_ ?_
     rotate_left 1
     · (intro w;go_simp;(try with_reducible rfl))
     try simp only [Rg.lp]
     refine Rg.tp 20 ⟨some 4,.assign (.tmp 33),_,_,_,none⟩ (v:=?_) rfl ?_ ?_
     rotate_left 1
     · (intro w;go_simp;(try with_reducible rfl))
     try simp only [Rg.lp]
     refine Rg.doneR (by kernel_rfl) ?_ _
     refine NoPanic.normal ?_
     go_wp2_with fail
     go_ret3
     exact⟨by rw [HC.out,HA1.out,HA2.out];rfl,HBW.out⟩
    ·
     rw [hd1]at hq1
     rw [hd1,Bool.true_and]at HC
     have HQ1:=Lib.hid hq1
     clear hq1 hd1
     refine wp_region_noPanic ?_
     refine Rg.beginR [] (fun _=>True) (by kernel_rfl) ?_
     refine Rg.tp 0 ⟨some 16,.move (.tmp 0),_,_,_,none⟩ (v:=?_) rfl ?_ ?_
     rotate_left 1
     · (intro w;go_simp;(try with_reducible rfl))
     try simp only [Rg.lp]
     refine Rg.tp 1 ⟨some 17,.move (.tmp 5),_,_,_,none⟩ (v:=?_) rfl ?_ ?_
     rotate_left 1
     · (intro w;go_simp;(try with_reducible rfl))
     try simp only [Rg.lp]
     refine Rg.tp 2 ⟨some 18,.slice 9 (.tmp 16) none (some (.tmp 17)) none,_,_,_,none⟩ (v:=.string (S.extract 0 k)) rfl ?_ ?_
     · (intro w;go_simp;(try with_reducible rfl))
     try simp only [Rg.lp]
     refine Rg.tp 3 ⟨some 19,.move (.tmp 0),_,_,_,none⟩ (v:=?_) rfl ?_ ?_
     rotate_left 1
     · (intro w;go_simp;(try with_reducible rfl))
     try simp only [Rg.lp]
     refine Rg.tp 4 ⟨some 20,.move (.tmp 5),_,_,_,none⟩ (v:=?_) rfl ?_ ?_
     rotate_left 1
     · (intro w;go_simp;(try with_reducible rfl))
     try simp only [Rg.lp]
     refine Rg.tp 5 ⟨some 21,.binOp .add 3 (.tmp 20) (.const (.int .i64 1)) 3,_,_,_,none⟩ (v:=.int .i64 (k1:Int)) rfl ?_ ?_
     · (intro w;go_simp)
     try simp only [Rg.lp]
     refine Rg.tp 6 ⟨some 22,.slice 9 (.tmp 19) (some (.tmp 21)) none none,_,_,_,none⟩ (v:=.string (S.extract k1 S.size)) rfl ?_ ?_
     · (intro w;go_simp;(try with_reducible rfl))
     try simp only [Rg.lp]
     refine Rg.tp 7 ⟨some 23,.move (.tmp 0),_,_,_,none⟩ (v:=?_) rfl ?_ ?_
     rotate_left 1
     · (intro w;go_simp;(try with_reducible rfl))
     try simp only [Rg.lp]
     refine Rg.tp 8 ⟨some 24,.move (.tmp 5),_,_,_,none⟩ (v:=?_) rfl ?_ ?_
     rotate_left 1
     · (intro w;go_simp;(try with_reducible rfl))
     try simp only [Rg.lp]
     refine Rg.tp 9 ⟨some 25,.slice 9 (.tmp 23) none (some (.tmp 24)) none,_,_,_,none⟩ (v:=.string (S.extract 0 k)) rfl ?_ ?_
     · (intro w;go_simp;(try with_reducible rfl))
     try simp only [Rg.lp]
     refine Rg.stp_o 10 ?_
     refine Rg.stepF ?_ ?_
     · kernel_rfl
     intro K hK
     rw [if_pos (by rfl)]
     go_simp
     go_at_call 129
     refine(HQ1.out _ HM1.out HLL.out.1).mono ?_
     rintro e w' ⟨rfl,rfl⟩
     dsimp only
     refine hK.out _ _ ?_
     clear hK K
     try simp only [Rg.lp]
     refine Rg.tp 11 ⟨some 27,.move (.tmp 26),_,_,_,none⟩ (v:=?_) rfl ?_ ?_
     rotate_left 1
     · (intro w;go_simp;(try with_reducible rfl))
     try simp only [Rg.lp]
     refine Rg.tp 12 ⟨some 28,.move (.tmp 0),_,_,_,some (11,true)⟩ (v:=?_) rfl ?_ ?_
     rotate_left 1
     · (intro w;go_simp;(try with_reducible rfl))
     try simp only [Rg.lp]
     refine Rg.tp 13 ⟨some 29,.move (.tmp 5),_,_,_,some (11,true)⟩ (v:=?_) rfl ?_ ?_
     rotate_left 1
     · (intro w;go_simp;(try with_reducible rfl))
     try simp only [Rg.lp]
     refine Rg.tp 14 ⟨some 30,.binOp .add 3 (.tmp 29) (.const (.int .i64 1)) 3,_,_,_,some (11,true)⟩ (v:=.int .i64 (k1:Int)) rfl ?_ ?_
     · (intro w;go_simp)
     try simp only [Rg.lp]
     refine Rg.tp 15 ⟨some 31,.slice 9 (.tmp 28) (some (.tmp 30)) none none,_,_,_,some (11,true)⟩ (v:=.string (S.extract k1 S.size)) rfl ?_ ?_
     · (intro w;go_simp;(try with_reducible rfl))
     try simp only [Rg.lp]
     refine Rg.stp_o 16 ?_
     refine Rg.stepF ?_ ?_
     · kernel_rfl
     intro K hK
     rw [if_pos (by rfl)]
     go_simp
     go_at_call 129
     refine(HQ2.out _ HM2.out HLL.out.2).mono ?_
     rintro e w' ⟨rfl,rfl⟩
     dsimp only
     refine hK.out _ _ ?_
     clear hK K
     try simp only [Rg.lp]
     refine Rg.tp 17 ⟨some 33,.pick (.tmp 27) (.tmp 32) (.const (.bool false)),_,_,_,none⟩ (v:=?_) rfl ?_ ?_
     rotate_left 1
     · (intro w;go_simp;(try with_reducible rfl))
     try simp only [Rg.lp]
     refine Rg.tp 18 ⟨some 2,.assign (.tmp 18),_,_,_,none⟩ (v:=?_) rfl ?_ ?_
     rotate_left 1
     · (intro w;go_simp;(try with_reducible rfl))
     try simp only [Rg.lp]
     refine Rg.tp 19 ⟨some 3,.assign (.tmp 22),_,_,_,none⟩ (v:=?_) rfl ?_ ?_
     rotate_left 1
     · (intro w;go_simp;(try with_reducible rfl))
     try simp only [Rg.lp]
     refine Rg.tp 20 ⟨some 4,.assign (.tmp 33),_,_,_,none⟩ (v:=?_) rfl ?_ ?_
     rotate_left 1
     · (intro w;go_simp;(try with_reducible rfl))
     try simp only [Rg.lp]
     refine Rg.doneR (by kernel_rfl) ?_ _
     refine NoPanic.normal ?_
     go_wp2_with fail
     go_ret3
     exact⟨by rw [HC.out,HA1.out,HA2.out];rfl,HBW.out⟩
   ·
    have hx46:((x:Int)==46)=false:=by rw [beq_eq_false_iff_ne];omega
    have HA:=Lib.hid (show ∀c∈l.take (k+1),c≠46 from fun c hc=>by
     rw [HT.out]at hc
     rcases List.mem_append.1 hc with h|h
     · exact HD.out c h
     · simp at h;omega)
    clear h46 hx
    go_wp2_with fail
    exact⟨⟨k+1,by omega,by go_num,HA.out,trivial⟩,by simp [intOf];omega⟩
  ·
   have hge:¬k<S.size:=by rw [HZ.out];exact hlt
   have e:k=n:=by omega
   have HA:=Lib.hid (show cutOf l=(l,[],digitsOf l)from cut_none (by have h:=HD.out;rwa [e,HN.out,List.take_length]at h))
   have HQ:=Lib.hid (digits_any l wr HL.out (by rw [←HN.out];exact HNN.out))
   have hq:=HQ.out
   rw [←HS.out]at hq
   have HQ2:=Lib.hid hq
   clear hlt e HQ hq
   go_wp2_with fail
   refine HQ2.out.mono ?_
   rintro e w' ⟨rfl,rfl⟩
   go_wp2_with fail
   go_ret3
   exact⟨by rw [HA.out,HS.out];rfl,Below.refl _ _⟩
end Tx
end Go.Proofs.YtljpoibnkkcjdaaGreatDoor
