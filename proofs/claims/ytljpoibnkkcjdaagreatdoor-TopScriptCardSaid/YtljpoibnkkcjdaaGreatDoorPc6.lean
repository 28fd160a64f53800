import Derived.Test.YtljpoibnkkcjdaaGreatDoorPc5
set_option linter.unusedVariables false
set_option linter.unusedSimpArgs false
namespace Go.Proofs.YtljpoibnkkcjdaaGreatDoor
namespace Cl
open Go.ChangeShapes Go.WideShapes Go.ChangeAt Go.RowKit Mem Rws Nd
theorem run_append_at {P:Program} (w:World) {base:Nat} {t ty e:TypeId} {z:Value} {size bytes:Nat} (E:Elem P t e z size bytes)
  {v:Value} {n:Nat} {xs:List Value} (hown:w.ownsRow base e size v n xs) {ad:Addr} {m c:Nat} {news:List Value} (hl:news.length=m*size) (hc:∀j u,news[j]?=some u→ w.cell? (ad.add j)=some u) (h1:∀u∈news,u.oneCell'=true) (h63:n+m≤maxLen) (hbytes:(n+m)*bytes≤140737488355328) (hbase:base≤w.heap.size):
  ∃A' c' w',(Builtin.append_ #[t,t] ty #[v,.slice (some ad) m c]).run P w=.ok (.slice A' (n+m) c') w'∧w'.ownsRow base e size (.slice A' (n+m) c') (n+m) (xs++news)∧w.grownBy w' v.ownBlock∧((Value.slice A' (n+m) c').ownBlock=v.ownBlock∨(Value.slice A' (n+m) c').ownBlock=some w.heap.size):=by
 obtain⟨i,hi,hz0,hz1,hz2⟩:=info_parts E.info
 obtain⟨v',w',hrun,h2,h3,_,h4⟩:=run_append_own_at (P:=P) w base t ty e i z size bytes E.und hi hz0 hz1 hz2 E.cells E.pos v n xs hown ad m c news hl hc h1 h63 hbytes hbase
 obtain⟨A',c',rfl,_⟩:=own_form h2
 exact⟨A',c',w',hrun,h2,h3,h4⟩
theorem wp_append_at {P:Program} (w:World) {o:Oper} {a:Act} {K:Act→World→Prop} {Q:Exit→Act→World→Prop} (s x:Operand) (t:TypeId)
  (ho:o.op=.call { callee:=.builtin .append,args:=#[s,x],argTypes:=#[t,t] })
  {base:Nat} {e:TypeId} {z:Value} {size bytes:Nat} (E:Elem P t e z size bytes)
  {v:Value} {n:Nat} {xs:List Value} (hs:a.eval s=v) (hown:w.ownsRow base e size v n xs) {ad:Addr} {m c:Nat} {news:List Value} (hx:a.eval x=.slice (some ad) m c) (hl:news.length=m*size) (hc:∀j u,news[j]?=some u→ w.cell? (ad.add j)=some u) (h1:∀u∈news,u.oneCell'=true) (h63:n+m≤maxLen) (hbytes:(n+m)*bytes≤140737488355328) (hbase:base≤w.heap.size)
  (h:∀A' c' w',w'.ownsRow base e size (.slice A' (n+m) c') (n+m) (xs++news)→w.grownBy w' v.ownBlock→((Value.slice A' (n+m) c').ownBlock=v.ownBlock∨(Value.slice A' (n+m) c').ownBlock=some w.heap.size)→K (a.put o.dst (.slice A' (n+m) c')) w'):o.wp P a w K Q:=by
 obtain⟨A',c',w',hrun,h2,h3,h4⟩:=run_append_at (P:=P) (ty:=o.type) w E hown hl hc h1 h63 hbytes hbase
 unfold Oper.wp execOp
 simp only [ho,resolve,invoke,builtin,Sem.run_bind,Sem.run_pure,Result.andThen_ok,List.map_toArray,List.map_cons,List.map_nil,hs,hx]
 rw [hrun]
 exact h A' c' w' h2 h3 h4
theorem Ms.decN_le {bs:List Nat} (h:Ms.decE bs=0):Ms.decN bs≤24:=by
 unfold Ms.decE at h
 (repeat' split at h)<;>first|omega|(exact absurd h (by decide))|omega
open Classical in
noncomputable def came (fm:Int) (bs:List Nat):Option Ms.Msg:=if Ms.decE bs=0∧((Ms.bAt bs 2:Nat):Int)=fm then some ⟨Ms.bAt bs 1,fm,Ms.valB bs 3 4,Ms.decZ bs (Ms.decN bs)⟩else none
def Came (s s':RunC) (ot:Nat) (o:Option Ms.Msg):Prop:=match o with|none=>s'=s|some m=>∃A c,s'=s.box ot A c (s.bX ot++[m])
set_option maxRecDepth 100000 in
set_option maxHeartbeats 4000000 in
theorem deliver_any (R b0:Nat) (s:RunC) (fm:Int) (ot:Nat) (hot:ot<4) (A:Option Addr) (c:Nat) (bs:List Nat) (B:Nat) (w:World) (h:RunAt w R b0 s) (hlen:((s.bX ot).length+1)*48≤140737488351232) (hB:B≤w.heap.size) (hA:A=none→c=0) (hnc:bs.length≤c) (hcm:c≤maxLen) (hc:bs.length≤140737488351232) (hbs:∀x∈bs,x<256) (hr:Rd w B 1 A bs.length (Sm.bytesV bs)):
  Calls Tryz.prog 51 #[.pointer (some ⟨R,0,none⟩),.int .i64 fm,.int .i64 (ot:Int),.slice A bs.length c] w fun e w'=>e=.returned (.tuple #[])∧∃s',Came s s' ot (came fm bs)∧RunAt w' R b0 s'∧Keep w w' R s s':=by
 have HRA:=Lib.hid h
 have CD:=Lib.hid (Ms.decode_any A c bs B w hB hA hnc hcm hc hbs hr)
 clear h hr hbs
 go_enter Tryz.func51,Tryz.ntmps51
 go_wp2_with fail
 refine CD.out.mono ?_
 intro e w1 hd
 unfold Ms.DecAs Ms.msgV at hd
 by_cases hE:Ms.decE bs=0
 ·
  rw [if_pos hE]at hd
  obtain⟨AZ,cz,rfl,hown,hb⟩:=hd
  have HRA0:=HRA
  have HRA:=Lib.hid (HRA.out.below hb)
  have HK:=Lib.hid (Keep.of_below (R:=R) (s:=s) hb)
  have HBW:=Lib.hid (show b0≤w.heap.size from Nat.le_trans HRA0.out.low (Nat.le_of_lt HRA0.out.blk.lt))
  have HDN:=Lib.hid (Ms.decN_le hE)
  have HO:=Lib.hid hown
  have hbs:=hb.size
  clear hb hown
  go_upto_region 1 with fail
  have hb:Below w1.heap.size w1 (w1.alloc (.cells #[.int .i64 (Ms.bAt bs 1:Int),.int .i64 (Ms.bAt bs 2:Int),.int .i64 (Ms.valB bs 3 4:Int),.slice AZ (Ms.decN bs) cz] 72)):=(Below.refl _ _).alloc (Nat.le_refl _) _
  have HRA:=Lib.hid (HRA.out.below hb)
  have HK:=Lib.hid (HK.out.trans (Keep.of_below (R:=R) (s:=s) hb))
  have HBL:=Lib.hid hb
  have HPB:=Lib.hid (show Blk (w1.alloc (.cells #[.int .i64 (Ms.bAt bs 1:Int),.int .i64 (Ms.bAt bs 2:Int),.int .i64 (Ms.valB bs 3 4:Int),.slice AZ (Ms.decN bs) cz] 72)) w1.heap.size 72 #[.int .i64 (Ms.bAt bs 1:Int),.int .i64 (Ms.bAt bs 2:Int),.int .i64 (Ms.valB bs 3 4:Int),.slice AZ (Ms.decN bs) cz]from Blk.fresh _ _ _)
  clear hb
  generalize(w1.alloc (.cells #[.int .i64 (Ms.bAt bs 1:Int),.int .i64 (Ms.bAt bs 2:Int),.int .i64 (Ms.valB bs 3 4:Int),.slice AZ (Ms.decN bs) cz] 72))=w2 at*
  obtain⟨gp,hgp⟩:∃g,w1.heap.size=g:=⟨_,rfl⟩
  have HGP:=Lib.hid hgp
  rw [hgp]at HPB ⊢
  clear hgp
  have HO:=Lib.hid (Nd.ownsRow_below HO.out (show Below w1.heap.size w1 w2 from HBL.out))
  have PB:=Lib.hid HPB.out
  have y1:=PB.out.cell 1
  simp only [List.getElem?_toArray,List.getElem?_cons_zero,List.getElem?_cons_succ]at y1
  by_cases hF:((Ms.bAt bs 2:Nat):Int)=fm
  ·
   subst hF
   have HCN:=Lib.hid (show came (Ms.bAt bs 2:Int) bs=some ⟨Ms.bAt bs 1,(Ms.bAt bs 2:Int),Ms.valB bs 3 4,Ms.decZ bs (Ms.decN bs)⟩from if_pos ⟨hE,rfl⟩)
   go_upto_region 2 with fail
   have y3:=(show Blk w2 R 68 (row 315 s.cell)from HRA.out.blk).cell (311+ot)
   rw [row_at (by omega),s.cell_box hot]at y3
   have ho0:(0:Int)≤(ot:Int):=by omega
   have ho4:(ot:Int)<4:=by omega
   clear y1
   have HS: w2.drew.cell? ⟨R,311+ot,none⟩=some (s.boxV ot)∧Blk w2.drew gp 72 #[.int .i64 (Ms.bAt bs 1:Int),.int .i64 (Ms.bAt bs 2:Int),.int .i64 (Ms.valB bs 3 4:Int),.slice AZ (Ms.decN bs) cz]:=⟨y3,PB.out.drew⟩
   refine wp_region_noPanic ?_
   refine Rg.beginR [7,8] (fun w'=> w'.cell? ⟨R,311+ot,none⟩=some (s.boxV ot)∧Blk w' gp 72 #[.int .i64 (Ms.bAt bs 1:Int),.int .i64 (Ms.bAt bs 2:Int),.int .i64 (Ms.valB bs 3 4:Int),.slice AZ (Ms.decN bs) cz]) (by kernel_rfl) ?_
   refine Rg.tp 0 ⟨some 23,.move (.tmp 0),_,_,_,none⟩ (v:=?_) rfl ?_ ?_
   rotate_left 1
   · (intro w;go_simp;(try with_reducible rfl))
   try simp only [Rg.lp]
   refine Rg.tp 1 ⟨some 24,.move (.tmp 2),_,_,_,none⟩ (v:=?_) rfl ?_ ?_
   rotate_left 1
   · (intro w;go_simp;(try with_reducible rfl))
   try simp only [Rg.lp]
   refine Rg.tp 2 ⟨some 25,.move (.tmp 0),_,_,_,none⟩ (v:=?_) rfl ?_ ?_
   rotate_left 1
   · (intro w;go_simp;(try with_reducible rfl))
   try simp only [Rg.lp]
   refine Rg.tp 3 ⟨some 26,.move (.tmp 2),_,_,_,none⟩ (v:=?_) rfl ?_ ?_
   rotate_left 1
   · (intro w;go_simp;(try with_reducible rfl))
   try simp only [Rg.lp]
   refine Rg.tp 4 ⟨some 27,.nilCheck (.tmp 25),_,_,_,none⟩ (v:=?_) rfl ?_ ?_
   rotate_left 1
   · (intro w;go_simp;(try with_reducible rfl))
   try simp only [Rg.lp]
   refine Rg.tp 5 ⟨some 28,.fieldAddr 68 (.tmp 27) 2,_,_,_,none⟩ (v:=?_) rfl ?_ ?_
   rotate_left 1
   · (intro w;go_simp;(try with_reducible rfl))
   try simp only [Rg.lp]
   refine Rg.tp 6 ⟨some 29,.indexAddr 66 (.tmp 28) (.tmp 26),_,_,_,none⟩ (v:=?_) rfl ?_ ?_
   rotate_left 1
   · (intro w;go_simp;(try with_reducible rfl))
   try simp only [Rg.lp]
   refine Rg.stp_s 7 ?_ HS (hy:=?_) (h:=?_)
   rotate_left 1
   · (intro w hSw;(try dsimp only at hSw);(try go_split_ands);go_simp;(try with_reducible rfl))
   try simp only [Rg.lp]
   refine Rg.stp_s 8 (.agg #[.int .i64 (Ms.bAt bs 1:Int),.int .i64 (Ms.bAt bs 2:Int),.int .i64 (Ms.valB bs 3 4:Int),.slice AZ (Ms.decN bs) cz]) HS (hy:=?_) (h:=?_)
   · (intro w' hSw;exact exec_load_row 72 _ rfl _ rfl hSw.2 Tryz.underlying72 rfl (by kernel_rfl))
   try simp only [Rg.lp]
   refine Rg.tp 11 ⟨some 34,.nilCheck (.tmp 23),_,_,_,none⟩ (v:=?_) rfl ?_ ?_
   rotate_left 1
   · (intro w;go_simp;(try with_reducible rfl))
   try simp only [Rg.lp]
   refine Rg.tp 12 ⟨some 35,.fieldAddr 68 (.tmp 34) 2,_,_,_,none⟩ (v:=?_) rfl ?_ ?_
   rotate_left 1
   · (intro w;go_simp;(try with_reducible rfl))
   try simp only [Rg.lp]
   refine Rg.stp_o 9 ?_
   refine Rg.stepS ?_
   intro K hK
   go_simp
   have hb:Below w2.heap.size w2 (w2.alloc (.cells #[.int .i64 (Ms.bAt bs 1:Int),.int .i64 (Ms.bAt bs 2:Int),.int .i64 (Ms.valB bs 3 4:Int),.slice AZ (Ms.decN bs) cz] 72)).drew:=((Below.refl _ _).alloc (Nat.le_refl _) _).drew
   have NB:=Lib.hid (show Blk (w2.alloc (.cells #[.int .i64 (Ms.bAt bs 1:Int),.int .i64 (Ms.bAt bs 2:Int),.int .i64 (Ms.valB bs 3 4:Int),.slice AZ (Ms.decN bs) cz] 72)).drew w2.heap.size 72 #[.int .i64 (Ms.bAt bs 1:Int),.int .i64 (Ms.bAt bs 2:Int),.int .i64 (Ms.valB bs 3 4:Int),.slice AZ (Ms.decN bs) cz]from(Blk.fresh _ _ _).drew)
   have HRA:=Lib.hid (HRA.out.below hb)
   have HK:=Lib.hid (HK.out.trans (Keep.of_below (R:=R) (s:=s) hb))
   have HO:=Lib.hid (Nd.ownsRow_below HO.out hb)
   have PB:=Lib.hid (PB.out.below hb PB.out.lt)
   have y3:=HRA.out.blk.cell (311+ot)
   rw [row_at (by omega),s.cell_box hot]at y3
   clear hb HS
   generalize(w2.alloc (.cells #[.int .i64 (Ms.bAt bs 1:Int),.int .i64 (Ms.bAt bs 2:Int),.int .i64 (Ms.valB bs 3 4:Int),.slice AZ (Ms.decN bs) cz] 72)).drew=w3 at*
   have HS: w3.cell? ⟨R,311+ot,none⟩=some (s.boxV ot)∧Blk w3 gp 72 #[.int .i64 (Ms.bAt bs 1:Int),.int .i64 (Ms.bAt bs 2:Int),.int .i64 (Ms.valB bs 3 4:Int),.slice AZ (Ms.decN bs) cz]:=⟨y3,PB.out⟩
   refine hK.out _ _ HS ?_
   clear hK K
   try simp only [Rg.lp]
   refine Rg.stp_o 10 ?_
   refine Rg.stepF ?_ ?_
   · kernel_rfl
   intro K hK
   rw [if_pos (by rfl)]
   obtain⟨xs,hrow,hxs⟩:=HRA.out.box ot hot
   have HLO:=Lib.hid (Nat.le_trans HRA.out.low (Nat.le_of_lt HRA.out.blk.lt))
   refine wp_append_at _ (.tmp 30) (.tmp 32) 65 rfl (base:=b0) Ms.elemMsgs rfl hrow rfl (news:=#[.int .i64 (Ms.bAt bs 1:Int),.int .i64 (Ms.bAt bs 2:Int),.int .i64 (Ms.valB bs 3 4:Int),.slice AZ (Ms.decN bs) cz].toList) rfl (fun j u hu=>by rw [Addr.add_lit,Nat.zero_add,NB.out.cell j];simpa using hu) (by simp [Value.oneCell']) (by unfold maxLen;omega) (by omega) HLO.out ?_
   intro A2 c2 w4 hown4 hg4 hat4
   have b4:=HRA.out.blk.grown hg4 (fun e=>HRA.out.own_ne hot e.symm)
   have v4:=b4.cell (311+ot)
   rw [row_at (by omega),s.cell_box hot]at v4
   have f4:=b4.thaw (311+ot)
   have hzl:(Ms.decZ bs (Ms.decN bs)).length=Ms.decN bs:=Ms.decZ_len _ _
   have hpush:=HRA.out.push hot (m:=⟨Ms.bAt bs 1,(Ms.bAt bs 2:Int),Ms.valB bs 3 4,Ms.decZ bs (Ms.decN bs)⟩) (a:=AZ) (ca:=cz) hxs hrow (by rw [hzl];exact own_weaken HO.out (by have:=HBW.out;omega)) (by rw [hzl];have:=HDN.out;omega) (show w4.ownsRow b0 72 4 (.slice A2 ((s.bX ot).length+1) c2) ((s.bX ot).length+1) (xs++Ms.msgL _ AZ cz)from by unfold Ms.msgL;dsimp only;rw [hzl];exact hown4) hg4 hat4
   have HP:=Lib.hid hpush
   clear hown4 hg4 hat4 b4 hrow hxs HS hpush hzl
   refine hK.out _ _ ?_
   clear hK K
   try simp only [Rg.lp]
   refine Rg.tp 13 ⟨some 36,.indexAddr 66 (.tmp 35) (.tmp 24),_,_,_,none⟩ (v:=?_) rfl ?_ ?_
   rotate_left 1
   · (intro w;go_simp;(try with_reducible rfl))
   try simp only [Rg.lp]
   refine Rg.stp_o 14 ?_
   refine Rg.stepF ?_ ?_
   · kernel_rfl
   intro K hK
   go_simp
   refine hK.out _ _ ?_
   clear hK K
   try simp only [Rg.lp]
   refine Rg.doneR (by kernel_rfl) ?_ _
   refine NoPanic.normal ?_
   go_wp2_with fail
   refine bodyPost_end (results_none rfl _ _ _) rfl ?_
   exact⟨rfl,_,by rw [HCN.out];exact⟨A2,c2,rfl⟩,HP.out.1,HK.out.trans HP.out.2⟩
  ·
   have HCN:=Lib.hid (show came fm bs=none from if_neg fun h=>hF h.2)
   have hFb:(((Ms.bAt bs 2:Nat):Int)==fm)=false:=by simp [hF]
   go_wp2_with fail
   refine bodyPost_end (results_none rfl _ _ _) rfl ?_
   exact⟨rfl,s,by rw [HCN.out];rfl,HRA.out,HK.out⟩
 ·
  rw [if_neg hE]at hd
  obtain⟨rfl,hb⟩:=hd
  have HCN:=Lib.hid (show came fm bs=none from if_neg fun h=>hE h.1)
  have HRA:=Lib.hid (HRA.out.below hb)
  have HK:=Lib.hid (Keep.of_below (R:=R) (s:=s) hb)
  clear hb
  have hEb:(Ms.decE bs==0)=false:=by simp [hE]
  go_upto_region 1 with fail
  have hb:Below w1.heap.size w1 (w1.alloc (.cells #[.int .i64 0,.int .i64 0,.int .i64 0,.slice none 0 0] 72)):=(Below.refl _ _).alloc (Nat.le_refl _) _
  have HRA:=Lib.hid (HRA.out.below hb)
  have HK:=Lib.hid (HK.out.trans (Keep.of_below (R:=R) (s:=s) hb))
  clear hb
  generalize(w1.alloc (.cells #[.int .i64 0,.int .i64 0,.int .i64 0,.slice none 0 0] 72))=w2 at*
  go_wp2_with fail
  refine bodyPost_end (results_none rfl _ _ _) rfl ?_
  exact⟨rfl,s,by rw [HCN.out];rfl,HRA.out,HK.out⟩
end Cl
namespace Wr
open Go.ChangeShapes Go.WideShapes Go.ChangeAt Go.RowKit Mem Sm SumLaw
def hb (v:Int) (j:Nat):Nat:=(v/256 ^ j%256).toNat
theorem hb_lt (v:Int) (j:Nat):hb v j<256:=by unfold hb;omega
theorem hb_int (v:Int) (j:Nat):((hb v j:Nat):Int)=v/256 ^ j%256:=by unfold hb;omega
def hi (v:Int):Nat→List Nat
 |0=>[]
 |j+1=>hb v j::hi v j
theorem hi_length (v:Int):∀j,(hi v j).length=j
 |0=>rfl
 |j+1=>by simp [hi,hi_length v j]
theorem hi_small (v:Int):∀j,∀x∈hi v j,x<256
 |0,x,h=>by cases h
 |j+1,x,h=>by
  rcases List.mem_cons.1 h with rfl|h
  · exact hb_lt v j
  · exact hi_small v j x h
theorem shr_pow (v:Int) (j:Nat):v/2 ^ (8*j)=v/256 ^ j:=by
 rw [Int.pow_mul];rfl
def OwnB (base:Nat) (w w':World) (xs:List Nat) (e:Ending):Prop:=
 ∃A c,e=.returned (.slice A xs.length c)∧w'.ownsRow base 5 1 (.slice A xs.length c) xs.length (bytesV xs)∧Below base w w'
def PutAt (base:Nat) (w wr:World) (xs:List Nat) (v:Int) (n:Nat) (sv si:Value):Prop:=
 ∃(j:Nat) (P:List Nat) (A:Option Addr) (c:Nat),j≤n∧P++hi v j=hi v n∧si=.int .i64 ((j:Int)-1)∧sv=.slice A (xs++P).length c∧wr.ownsRow base 5 1 (.slice A (xs++P).length c) (xs++P).length (bytesV (xs++P))∧Below base w wr
def vals (zs:List Int):List Nat:=(zs.map fun z=>hi z 8).flatten
theorem vals_take (zs:List Int) (k:Nat) (hk:k<zs.length):vals (zs.take (k+1))=vals (zs.take k)++hi zs[k] 8:=by
 unfold vals
 rw [List.take_succ_eq_append_getElem hk,List.map_append,List.flatten_append]
 simp
theorem vals_length (zs:List Int):(vals zs).length=8*zs.length:=by
 induction zs with
 |nil=>rfl
 |cons z zs ih=>
  have:vals (z::zs)=hi z 8++vals zs:=rfl
  rw [this,List.length_append,hi_length,ih,List.length_cons];omega
theorem vals_small (zs:List Int):∀x∈vals zs,x<256:=fun x h=>by
 unfold vals at h
 obtain⟨l,hl,hx⟩:=List.mem_flatten.1 h
 obtain⟨z,_,rfl⟩:=List.mem_map.1 hl
 exact hi_small z 8 x hx
end Wr
namespace Sm
open Go.ChangeShapes Go.WideShapes Go.ChangeAt Go.RowKit Mem SumLaw
theorem seal_any (A:Option Addr) (c:Nat) (bs:List Nat) (B:Nat) (w:World) (hB:B≤w.heap.size) (hA:A=none→c=0) (hnc:bs.length≤c) (hc:bs.length≤140737488351232) (hbs:∀x∈bs,x<256) (hr:Rd w B 1 A bs.length (bytesV bs)):
  Calls Tryz.prog 74 #[.slice A bs.length c] w fun e w'=>OwnBytes w w' (sealed bs) e:=by
 have HR:=Lib.hid hr
 have HS:=Lib.hid hbs
 clear hr hbs
 go_enter Tryz.func74,Tryz.ntmps74
 go_wp2_with fail
 refine(sum_any A c bs B _ hB (by omega) HS.out HR.out).mono ?_
 rintro e w1 ⟨rfl,hb⟩
 have HR1:=Lib.hid (HR.out.below (hb.mono hB))
 obtain⟨s,hs,hs2⟩:=more_nat bs HS.out
 have HM:=Lib.hid hs
 rw [hs]
 clear hs
 have hsz:=hb.size
 go_wp2_with(first
  |(refine wpList_make_cap rfl _ _ 58 rfl elemBytes (bs.length+4) rfl rfl rfl (by simp) (by omega) (by unfold maxLen;omega) hsz ?_;intro w2 hown hg)
  |(refine wpList_append_rd _ rfl (.tmp 11) (.tmp 12) 58 rfl elemBytes rfl hown rfl (fun h=>⟨by have:=hA h;omega,hA h⟩) (HR1.out.grown hg (Nat.le_trans hB hsz) (by simp)) (bytesV_one bs) (by unfold maxLen;omega) (by omega) (Nat.le_trans hsz hg.size) ?_;intro A' c' w3 hA' hown' hg'))
 have hbB:=onward (Below.refl w.heap.size w) (Nat.le_refl _) hb
 have hb2:=Below.grown hbB hg hsz (by simp)
 have hb3:=Below.grown hb2 hg' hb2.size (fun g e=>(hown.lt g e).1)
 simp only [List.nil_append,Nat.zero_add]at hown'
 have HO:Hid (OwnV w w3 (.slice A' bs.length c') (bs.length+0) (bs++tailTo s 0)):=Lib.hid ⟨A',c',rfl,by simp [tailTo],own_weaken (by rw [show tailTo s 0=[]from rfl,List.append_nil];exact hown') (by omega)⟩
 clear hown hown' hg hg' hA' hsz hb hbB hb2 HR1
 go_loopw [3,4,14] (fun t v i wr=>∃k:Nat,k≤4∧i=.int .i64 k∧t=.int .i64 ((s/256 ^ k:Nat):Int)∧OwnV w wr v (bs.length+k) (bs++tailTo s k)∧Below w.heap.size w wr) (fun _ _ i _=>4-(intOf i).toNat)
 case atStart=>exact⟨0,by omega,rfl,by simp,HO.out,hb3⟩
 case round=>
  clear HO hb3
  obtain⟨k,hk,rfl,rfl,⟨A1,c1,rfl,hn1,hown⟩,hb⟩:=hrel
  have HN:=Lib.hid hn1
  clear hn1
  have hsz:=hb.size
  have HT:=Lib.hid (tailTo_succ s k)
  have HD:=Lib.hid (show s/256 ^ (k+1)=s/256 ^ k/256 by rw [Nat.pow_succ,Nat.div_div_eq_div_mul])
  have hq2:s/256 ^ k<4294967296:=Nat.lt_of_le_of_lt (Nat.div_le_self _ _) hs2
  generalize hq:s/256 ^ k=q at*
  have HQ:=Lib.hid hq
  clear hq
  by_cases hlt:k<4
  ·
   have e1:IntKind.u8.wrap (q:Int)=((q%256:Nat):Int):=by simp [IntKind.wrap,IntKind.bits,IntKind.signed]
   go_wp2_with(at_builtin;refine wpList_append_rd _ rfl (.tmp 16) (.tmp 19) 58 rfl elemBytes rfl (hown.alloc _) rfl (by simp) (rd_one _ _ _) (by simp [Value.oneCell']) (by unfold maxLen;omega) (by omega) (by simp;omega) ?_;intro A2 c2 w4 hA2 hown2 hg2)
   have hb4:=Below.grown (hb.alloc hsz (.cells #[.int .u8 ((q:Int)%256)] 5)) hg2 (by simp;omega) (fun g e=>(hown.lt g e).1)
   refine⟨⟨k+1,by omega,by go_num,by rw [HD.out];rfl,⟨A2,c2,by rw [Nat.add_assoc],by rw [HT.out,←List.append_assoc,List.length_append,←HN.out];rfl,?_⟩,hb4⟩,by simp [intOf];omega⟩
   rw [HT.out,←List.append_assoc,bytesV_append,←Nat.add_assoc]
   exact hown2
  ·
   obtain rfl:k=4:=by omega
   clear hlt
   have HM2:=Lib.hid (show sealed bs=bs++tailTo s 4 by unfold sealed;rw [HM.out,Int.toNat_natCast])
   go_wp2_with fail
   go_ret
   exact⟨A1,c1,by rw [HM2.out,←HN.out];rfl,by rw [HM2.out,←HN.out];exact hown,hb⟩
end Sm
namespace Wr
open Go.ChangeShapes Go.WideShapes Go.ChangeAt Go.RowKit Mem Sm SumLaw Go.Proofs.YtljpoibnkkcjdaaGreatDoor.Ms
set_option maxHeartbeats 1000000 in
theorem put_any (A:Option Addr) (c:Nat) (xs:List Nat) (v:Int) (n:Nat) (base:Nat) (w:World) (hn:n≤8) (hl:xs.length≤140737488355000) (hbase:base≤w.heap.size) (ho:w.ownsRow base 5 1 (.slice A xs.length c) xs.length (bytesV xs)):
  Calls Tryz.prog 73 #[.slice A xs.length c,.int .i64 v,.int .i64 (n:Int)] w fun e w'=>OwnB base w w' (xs++hi v n) e:=by
 have HO:=Lib.hid ho
 clear ho
 go_enter Tryz.func73,Tryz.ntmps73
 go_wp2_with fail
 go_loopw [0,7] (fun sv si wr=>PutAt base w wr xs v n sv si) (fun _ i _=>(intOf i+1).toNat)
 case atStart=>exact⟨n,[],A,c,Nat.le_refl _,rfl,rfl,by rw [List.append_nil],by rw [List.append_nil];exact HO.out,Below.refl _ _⟩
 case round=>
  obtain⟨j,P,A1,c1,hj,hP,rfl,rfl,hown,hbel⟩:=hrel
  have HP:=Lib.hid hP
  have HW:=Lib.hid hown
  have hsz:=hbel.size
  have hlen:(xs++P).length+j=xs.length+n:=by
   have:=congrArg List.length hP
   simp only [List.length_append,hi_length]at this ⊢
   omega
  obtain⟨m,hm⟩:∃m,(xs++P).length=m:=⟨_,rfl⟩
  rw [hm]at HW hlen ⊢
  have HM:=Lib.hid hm
  clear hP hown hm
  by_cases h0:j=0
  ·
   subst h0
   have HE:=Lib.hid (show xs++hi v n=xs++P by rw [←HP.out];simp [hi])
   go_wp2_with fail
   go_ret
   exact⟨A1,c1,by rw [HE.out,HM.out];rfl,by rw [HE.out,HM.out];exact HW.out,hbel⟩
  ·
   obtain⟨i,rfl⟩:∃i,j=i+1:=⟨j-1,by omega⟩
   have e1:((i+1:Nat):Int)-1=(i:Int):=by omega
   rw [e1]
   clear e1 h0
   have e2:(8*(i:Int)).toNat=8*i:=by omega
   have e3:IntKind.u8.wrap (v/2 ^ (8*i))=((hb v i:Nat):Int):=by rw [shr_pow,hb_int];simp [IntKind.wrap,IntKind.bits,IntKind.signed]
   go_wp2_with(at_builtin;refine wpList_append_rd _ rfl (.tmp 14) (.tmp 21) 58 rfl elemBytes rfl (HW.out.alloc _) rfl (by simp) (rd_one _ _ _) (by simp [Value.oneCell']) (by unfold maxLen;omega) (by omega) (by simp;omega) ?_;intro A2 c2 w4 hA2 hown2 hg2)
   have hb4:=Below.grown (hbel.alloc (Nat.le_trans hbase hsz) (.cells #[.int .u8 ((hb v i:Nat):Int)] 5)) hg2 (by simp;omega) (fun g e=>(HW.out.lt g e).1)
   have hlen2:(xs++(P++[hb v i])).length=m+1:=by rw [←List.append_assoc,List.length_append,HM.out];rfl
   refine⟨⟨i,P++[hb v i],A2,c2,by omega,by rw [←HP.out,List.append_assoc];rfl,rfl,by rw [hlen2],?_,hb4⟩,by simp [intOf]⟩
   rw [hlen2,←List.append_assoc,bytesV_append]
   exact hown2
def front (k f n:Int) (l:Nat):List Nat:=[87,hb k 0,hb f 0]++hi n 4++[l%256]
theorem front_length (k f n:Int) (l:Nat):(front k f n l).length=8:=by simp [front,hi_length]
theorem front_small (k f n:Int) (l:Nat):∀x∈front k f n l,x<256:=fun x h=>by
 unfold front at h
 rcases List.mem_append.1 h with h|h
 ·
  rcases List.mem_append.1 h with h|h
  ·
   simp at h
   have:=hb_lt k 0
   have:=hb_lt f 0
   omega
  · exact hi_small n 4 x h
 · simp at h;omega
def body (k f n:Int) (zs:List Int) (j:Nat):List Nat:=front k f n zs.length++vals (zs.take j)
theorem body_length (k f n:Int) (zs:List Int) (j:Nat) (hj:j≤zs.length):(body k f n zs j).length=8+8*j:=by
 rw [body,List.length_append,front_length,vals_length,List.length_take,Nat.min_eq_left hj]
theorem body_small (k f n:Int) (zs:List Int) (j:Nat):∀x∈body k f n zs j,x<256:=fun x h=>by
 rcases List.mem_append.1 h with h|h
 · exact front_small _ _ _ _ x h
 · exact vals_small _ x h
def enc (k f n:Int) (zs:List Int):List Nat:=sealed (body k f n zs zs.length)
def EncAt (w w':World) (k f n:Int) (zs:List Int) (e:Ending):Prop:=
 (wrong k f n zs.length≠0∧e=.returned (.tuple #[.slice none 0 0,.int .i64 (wrong k f n zs.length)])∧Below w.heap.size w w')∨
 (wrong k f n zs.length=0∧∃A c,e=.returned (.tuple #[.slice A (enc k f n zs).length c,.int .i64 0])∧w'.ownsRow w.heap.size 5 1 (.slice A (enc k f n zs).length c) (enc k f n zs).length (bytesV (enc k f n zs))∧Below w.heap.size w w')
theorem wrong_len {k f n:Int} {l:Nat} (h:wrong k f n l=0):l≤24:=by
 unfold wrong at h
 split at h
 · omega
 ·
  split at h
  · omega
  · split at h<;>omega
def LoopAt (base:Nat) (w wr:World) (k f n:Int) (zs:List Int) (sb si:Value):Prop:=
 ∃(j:Nat) (A:Option Addr) (c:Nat),j≤zs.length∧si=.int .i64 (j:Int)∧sb=.slice A (body k f n zs j).length c∧wr.ownsRow base 5 1 (.slice A (body k f n zs j).length c) (body k f n zs j).length (bytesV (body k f n zs j))∧Below base w wr
set_option maxRecDepth 100000 in
set_option maxHeartbeats 2000000 in
theorem encode_all (k f n:Int) (A:Option Addr) (c:Nat) (zs:List Int) (B:Nat) (w:World) (hB:B≤w.heap.size) (hc:zs.length*8≤140737488351232) (hr:Rd w B 1 A zs.length (intsV zs)):
  Calls Tryz.prog 52 #[msgV k f n A zs.length c] w fun e w'=>EncAt w w' k f n zs e:=by
 have hr':=Lib.hid hr
 have b0:Blk (w.alloc (.cells (msgC k f n A zs.length c) 72)) w.heap.size 72 (msgC k f n A zs.length c):=Blk.new rfl
 have hb0:Below w.heap.size w (w.alloc (.cells (msgC k f n A zs.length c) 72)):=(Below.refl _ _).alloc (Nat.le_refl _) _
 have HB0:=Lib.hid hb0
 have HK:=Lib.hid b0
 clear hr b0 hb0
 have cR:=right_any k f n A zs.length c
 unfold msgV at*
 unfold msgC at HK HB0
 cases hw:decide (wrong k f n zs.length=0)
 ·
  have hw':wrong k f n zs.length≠0:=by simpa using hw
  have HW:=Lib.hid hw'
  obtain⟨e0,he0⟩:∃e0,wrong k f n zs.length=e0:=⟨_,rfl⟩
  have HE:=Lib.hid he0
  rw [he0]at cR hw'
  have hne:(e0 !=0)=true:=by simpa using hw'
  clear hw hw' he0
  go_enter Tryz.func52,Tryz.ntmps52
  go_wp2_with(go_at_call 72;refine(cR _ (by omega)).mono ?_;rintro e w1 ⟨rfl,hb1⟩)
  all_goals
   go_ret2
   exact .inl ⟨HW.out,by rw [HE.out];rfl,onward HB0.out (Nat.le_refl _) hb1⟩
 ·
  have hw':wrong k f n zs.length=0:=by simpa using hw
  have hl:=wrong_len hw'
  have HW:=Lib.hid hw'
  rw [hw']at cR
  clear hw hw'
  have e4:IntKind.u8.wrap k=((hb k 0:Nat):Int):=by rw [hb_int];simp [IntKind.wrap,IntKind.bits,IntKind.signed]
  have e5:IntKind.u8.wrap f=((hb f 0:Nat):Int):=by rw [hb_int];simp [IntKind.wrap,IntKind.bits,IntKind.signed]
  have HL2:=Lib.hid (show([87,hb k 0,hb f 0]++hi n 4).length=7 by simp [hi_length])
  have e6:IntKind.u8.wrap (zs.length:Int)=((zs.length%256:Nat):Int):=by simp [IntKind.wrap,IntKind.bits,IntKind.signed]
  go_enter Tryz.func52,Tryz.ntmps52
  go_wp2_with(first
   |(go_at_call 72;refine(cR _ (by omega)).mono ?_;rintro e w1 ⟨rfl,hb1⟩;have HB1:=Lib.hid (onward HB0.out (Nat.le_refl _) hb1);have HK1:=Lib.hid (HK.out.below hb1 HK.out.lt);have hs1:=Nat.lt_of_lt_of_le HK.out.lt hb1.size;have x0:=HK1.out.cell 0;have x1:=HK1.out.cell 1;have x2:=(HK1.out.alloc (.cells #[.int .u8 87,.int .u8 ((hb k 0:Nat):Int),.int .u8 ((hb f 0:Nat):Int)] 5)).cell 2;simp only [List.getElem?_toArray,List.getElem?_cons_zero,List.getElem?_cons_succ]at x0 x1 x2;clear hb1)
   |(go_at_call 73;refine(put_any (some ⟨w1.heap.size,0,none⟩) 3 [87,hb k 0,hb f 0] n 4 (w.heap.size+1) _ (by omega) (by simp) (by simp;omega) (World.ownsRow_lit w1 #[.int .u8 87,.int .u8 ((hb k 0:Nat):Int),.int .u8 ((hb f 0:Nat):Int)] 3 hs1 (by unfold maxLen;omega) rfl)).mono ?_;rintro e w2 ⟨A2,c2,rfl,hown2,hb2⟩;rw [HL2.out]at hown2 ⊢;have HB2:=Lib.hid ((HB1.out.alloc HB1.out.size _).trans (hb2.mono (by omega)));have HK2:=Lib.hid ((HK1.out.alloc _).below hb2 (by omega));have HO2:=Lib.hid hown2;have y3:=HK2.out.cell 3;simp only [List.getElem?_toArray,List.getElem?_cons_zero,List.getElem?_cons_succ]at y3;have hs2:w.heap.size+1≤w2.heap.size:=HK2.out.lt;clear hb2 hown2 x2)
   |(refine wpList_append_rd _ rfl (.tmp 23) (.tmp 28) 58 rfl elemBytes rfl (HO2.out.alloc _) rfl (by simp) (rd_one _ _ _) (by simp [Value.oneCell']) (by unfold maxLen;omega) (by omega) (by simp;omega) ?_;intro A3 c3 w3 hA3 hown3 hg3;have HO3:=Lib.hid hown3;have hb3:=((Below.refl w2.heap.size w2).alloc (Nat.le_refl _) (.cells #[.int .u8 ((zs.length%256:Nat):Int)] 5));have HB3:=Lib.hid (Below.grown (HB2.out.alloc HB2.out.size (.cells #[.int .u8 ((zs.length%256:Nat):Int)] 5)) hg3 (by simp;omega) (fun g e=>by have:=(HO2.out.lt g e).1;omega));have HK3:=Lib.hid ((HK2.out.alloc (.cells #[.int .u8 ((zs.length%256:Nat):Int)] 5)).grown hg3 (fun e=>by have:=(HO2.out.lt _ e.symm).1;omega));have z3:=HK3.out.cell 3;simp only [List.getElem?_toArray,List.getElem?_cons_zero,List.getElem?_cons_succ]at z3;clear hown3 hg3 hb3))
  have HF:Hid (w3.ownsRow (w.heap.size+1) 5 1 (.slice A3 8 c3) 8 (bytesV (body k f n zs 0))):=Lib.hid (by
   rw [body,front,List.take_zero,show vals []=[]from rfl,List.append_nil,bytesV_append];exact HO3.out)
  have HL3:=Lib.hid (body_length k f n zs 0 (by omega))
  have HR3:=Lib.hid (hr'.out.below (HB3.out.mono hB))
  clear x0 x1 y3 z3 HO3 HO2 HK2 HK1 HK HL2 HB2 HB1 HB0 cR
  have hs3:w.heap.size<w3.heap.size:=HK3.out.lt
  clear HK3
  go_loopw [5,33] (fun sb si wr=>LoopAt (w.heap.size+1) w3 wr k f n zs sb si) (fun _ i _=>zs.length-(intOf i).toNat)
  case atStart=>exact⟨0,A3,c3,by omega,rfl,by rw [HL3.out],by rw [HL3.out];exact HF.out,Below.refl _ _⟩
  case round=>
   clear HF
   obtain⟨j,A4,c4,hj,rfl,rfl,hown,hbel⟩:=hrel
   have HW4:=Lib.hid hown
   have hsz:=Nat.lt_of_lt_of_le hs3 hbel.size
   have HL4:=Lib.hid (body_length k f n zs j hj)
   clear hown
   by_cases hlt:j<zs.length
   ·
    have hx:=HR3.out.below (hbel.mono (by omega:B≤w.heap.size+1))
    obtain⟨b,o,u,rfl,hbB,hu,hcell⟩:=hx.at hlt
    rw [intsV_at zs j hlt]at hu
    obtain rfl:=Option.some.inj hu
    have HV:=Lib.hid (vals_take zs j hlt)
    generalize zs[j]=z at*
    clear hu hx
    go_wp2_with(go_at_call 73;refine(put_any A4 c4 (body k f n zs j) z 8 (w.heap.size+1) _ (by omega) (by rw [HL4.out];omega) hsz HW4.out).mono ?_;rintro e w5 ⟨A5,c5,rfl,hown5,hb5⟩)
    have hbj:body k f n zs j++hi z 8=body k f n zs (j+1):=by rw [body,body,List.append_assoc,HV.out]
    rw [hbj]at hown5
    refine⟨⟨j+1,A5,c5,by omega,by go_num,by rw [←hbj,List.length_append],hown5,hbel.trans hb5⟩,by simp [intOf];omega⟩
   ·
    obtain rfl:j=zs.length:=by omega
    clear hlt
    have HX:=Lib.hid (show enc k f n zs=sealed (body k f n zs zs.length)from rfl)
    go_wp2_with(go_at_call 74;refine(seal_any A4 c4 (body k f n zs zs.length) _ _ (Nat.le_refl _) (fun h=>(own_nil HW4.out h).2) (own_cap HW4.out) (by rw [HL4.out];omega) (body_small _ _ _ _ _) (Rd.of_own HW4.out)).mono ?_;rintro e w5 ⟨A5,c5,rfl,hown5,hb5⟩)
    go_ret2
    exact .inr ⟨HW.out,A5,c5,rfl,own_weaken hown5 (by omega),HB3.out.trans ((hbel.mono (by omega)).trans (hb5.mono (by omega)))⟩
end Wr
namespace Cl
open Go.ChangeShapes Go.WideShapes Go.ChangeAt Go.RowKit Mem Rws Nd
def RunC.boxes (s:RunC) (bA:Nat→Option Addr) (g:Nat→List Ms.Msg) (bC:Nat→Nat):RunC:={ s with bA:=bA,bX:=g,bC:=bC }
theorem Came.boxes {s s':RunC} {ot:Nat} {o:Option Ms.Msg} (h:Came s s' ot o):∃bA bC,s'=s.boxes bA (setAt s.bX ot (s.bX ot++o.toList)) bC:=by
 cases o with
 |none=>
  refine⟨s.bA,s.bC,?_⟩
  have e:setAt s.bX ot (s.bX ot++(none:Option Ms.Msg).toList)=s.bX:=funext fun i=>by
   unfold setAt
   split
   · rename_i h;subst h;simp
   · rfl
  rw [e]
  exact h
 |some m=>
  obtain⟨A,c,rfl⟩:=h
  exact⟨_,_,rfl⟩
def toK (g:Nat→List Ms.Msg) (f:Int) (l:List Ms.Msg) (k i:Nat):List Ms.Msg:=if i<k∧(i:Int)≠f then g i++l else g i
theorem toK_zero (g:Nat→List Ms.Msg) (f:Int) (l:List Ms.Msg):toK g f l 0=g:=funext fun i=>if_neg (by omega)
theorem toK_own (g:Nat→List Ms.Msg) (f:Int) (l:List Ms.Msg) (k:Nat) (h:(k:Int)=f):toK g f l (k+1)=toK g f l k:=funext fun i=>by
 unfold toK
 by_cases e:i=k
 · subst e;rw [if_neg (by omega),if_neg (by omega)]
 ·
  by_cases hi:i<k∧(i:Int)≠f
  · rw [if_pos hi,if_pos ⟨by omega,hi.2⟩]
  · rw [if_neg hi,if_neg (by omega)]
theorem toK_at (g:Nat→List Ms.Msg) (f:Int) (l:List Ms.Msg) (k:Nat):toK g f l k k=g k:=if_neg (by omega)
theorem toK_succ (g:Nat→List Ms.Msg) (f:Int) (l:List Ms.Msg) (k:Nat) (h:¬(k:Int)=f):setAt (toK g f l k) k (toK g f l k k++l)=toK g f l (k+1):=funext fun i=>by
 by_cases e:i=k
 ·
  subst e
  rw [setAt_self,toK_at]
  exact(if_pos ⟨by omega,h⟩).symm
 ·
  rw [setAt_ne _ _ e]
  unfold toK
  by_cases hi:i<k∧(i:Int)≠f
  · rw [if_pos hi,if_pos ⟨by omega,hi.2⟩]
  · rw [if_neg hi,if_neg (by omega)]
theorem enc_len (k f n:Int) (zs:List Int):(Wr.enc k f n zs).length=12+8*zs.length:=by
 unfold Wr.enc
 rw [show Sm.sealed (Wr.body k f n zs zs.length)=Wr.body k f n zs zs.length++Sm.tailTo _ 4 from rfl,List.length_append,Sm.tailTo_length,Wr.body_length _ _ _ _ _ (Nat.le_refl _)]
 omega
theorem enc_small (k f n:Int) (zs:List Int):∀x∈Wr.enc k f n zs,x<256:=fun x h=>by
 unfold Wr.enc at h
 rw [show Sm.sealed (Wr.body k f n zs zs.length)=Wr.body k f n zs zs.length++Sm.tailTo _ 4 from rfl]at h
 rcases List.mem_append.1 h with h|h
 · exact Wr.body_small _ _ _ _ _ x h
 ·
  unfold Sm.tailTo at h
  obtain⟨i,_,rfl⟩:=List.mem_map.1 h
  omega
theorem Keep.kept {w w':World} {R:Nat} {s s':RunC} (h:Keep w w' R s s') {b:Nat} {t:TypeId} {cs:Array Value} (hb:Blk w b t cs) (hR:b≠R) (hX:∀i,i<4→s.own i≠some b):Blk w' b t cs:=(h.block b hb.lt hR hX).trans hb
theorem Keep.owned {w w':World} {R b0:Nat} {s s':RunC} (h:Keep w w' R s s') (hr:RunAt w R b0 s) {base:Nat} {e:TypeId} {size n:Nat} {v:Value} {xs:List Value} (ho:w.ownsRow base e size v n xs) (h1:e≠72) (h2:e≠68):w'.ownsRow base e size v n xs:=by
 obtain⟨hl,ho|⟨b,cap,cur,hv,hb,hh,hc⟩⟩:=ho
 · exact⟨hl,.inl ho⟩
 ·
  have hlt:b<w.heap.size:=(Array.getElem?_eq_some_iff.1 hh).1
  refine⟨hl,.inr ⟨b,cap,cur,hv,hb,(h.block b hlt (fun e=>?_) (fun i hi e=>?_)).trans hh,hc⟩⟩
  ·
   subst e
   have:=hr.blk
   unfold Blk at this
   rw [this]at hh
   injection hh with hh
   injection hh with _ g1 _
   exact h2 g1.symm
  ·
   obtain⟨ys,hy,_⟩:=hr.box i hi
   obtain⟨cur2,t,g1,g2⟩:=Ms.own_is hy (show 72≠3 by decide) b e
   obtain⟨hl3,⟨h3,_⟩|⟨b3,cap3,cur3,hv3,hb3,hh3,_⟩⟩:=hy
   ·
    unfold RunC.own RunC.boxV at e
    rw [h3]at e;cases e
   ·
    unfold RunC.own RunC.boxV at e
    rw [hv3]at e
    injection e with e
    have e:b3=b:=e
    rw [e,hh]at hh3
    injection hh3 with hh3
    injection hh3 with _ g3 _
    exact h1 g3
open Classical in
noncomputable def postX (g:Nat→List Ms.Msg) (k f n:Int) (zs:List Int):Nat→List Ms.Msg:=if Ms.wrong k f n zs.length≠0 then g else toK g f (came f (Wr.enc k f n zs)).toList 4
set_option maxRecDepth 100000 in
set_option maxHeartbeats 4000000 in
theorem post_any (R b0:Nat) (s:RunC) (k f n:Int) (A:Option Addr) (c:Nat) (zs:List Int) (B:Nat) (w:World) (h:RunAt w R b0 s) (hlen:∀i,i<4→((s.bX i).length+1)*48≤140737488351232) (hB:B≤w.heap.size) (hc:zs.length*8≤140737488351232) (hr:Rd w B 1 A zs.length (Ms.intsV zs)):
  Calls Tryz.prog 29 #[.pointer (some ⟨R,0,none⟩),Ms.msgV k f n A zs.length c] w fun e w'=>e=.returned (.tuple #[])∧∃bA bC,RunAt w' R b0 (s.boxes bA (postX s.bX k f n zs) bC)∧Keep w w' R s (s.boxes bA (postX s.bX k f n zs) bC):=by
 have hb:Below w.heap.size w (w.alloc (.cells (Ms.msgC k f n A zs.length c) 72)):=(Below.refl _ _).alloc (Nat.le_refl _) _
 have PB:=Lib.hid (show Blk (w.alloc (.cells (Ms.msgC k f n A zs.length c) 72)) w.heap.size 72 (Ms.msgC k f n A zs.length c)from Blk.fresh _ _ _)
 have HRA:=Lib.hid (h.below hb)
 have HK:=Lib.hid (Keep.of_below (R:=R) (s:=s) hb)
 have HR:=Lib.hid (hr.below (hb.mono hB))
 have hsz:=hb.size
 have HL:=Lib.hid hlen
 have HR0:=Lib.hid h
 have HGR:=Lib.hid (show R<w.heap.size from h.blk.lt)
 clear h hr hb hlen
 unfold Ms.msgV
 go_enter Tryz.func29,Tryz.ntmps29
 go_upto_region 1 with fail
 rw [show(#[.int .i64 k,.int .i64 f,.int .i64 n,.slice A zs.length c]:Array Value)=Ms.msgC k f n A zs.length c from rfl]
 generalize(w.alloc (.cells (Ms.msgC k f n A zs.length c) 72))=w1 at*
 obtain⟨gp,hgp⟩:∃g,w.heap.size=g:=⟨_,rfl⟩
 rw [hgp]at PB ⊢
 have HGP:=Lib.hid hgp
 clear hgp
 go_wp2_with(refine wpList_whole rfl 72 _ rfl gp rfl PB.out _ Tryz.underlying72 rfl (by kernel_rfl) ?_)
 refine(Wr.encode_all k f n A c zs B w1 (by omega) hc HR.out).mono ?_
 intro e w2 he
 unfold Wr.EncAt at he
 have HGN:=Lib.hid (show gp≠R∧∀i,i<4→s.own i≠some gp from⟨fun e=>by have:=HGR.out;have:=HGP.out;omega,fun i hi e=>by have:=(HR0.out.own_ge hi e).2;have:=HGP.out;omega⟩)
 rcases he with⟨hw,rfl,hb⟩|⟨hw,AE,cE,rfl,hown,hb⟩
 ·
  have HPX:=Lib.hid (show postX s.bX k f n zs=s.bX from if_pos hw)
  have hwb:(Ms.wrong k f n zs.length !=0)=true:=by simp [hw]
  have HRA:=Lib.hid (HRA.out.below hb)
  have HK:=Lib.hid (HK.out.trans (Keep.of_below (R:=R) (s:=s) hb))
  clear hb hw
  go_wp2_with fail
  refine bodyPost_ret (results_none rfl _ _ _) rfl ?_
  exact⟨rfl,s.bA,s.bC,by rw [HPX.out];exact HRA.out,by rw [HPX.out];exact HK.out⟩
 ·
  have HPX:=Lib.hid (show postX s.bX k f n zs=toK s.bX f (came f (Wr.enc k f n zs)).toList 4 from if_neg (fun h=>h hw))
  have HRA:=Lib.hid (HRA.out.below hb)
  have HK:=Lib.hid (HK.out.trans (Keep.of_below (R:=R) (s:=s) hb))
  have PB:=Lib.hid (PB.out.below hb PB.out.lt)
  have HO:=Lib.hid hown
  have HZ:=Lib.hid (Wr.wrong_len hw)
  clear hb hw hown
  go_wp2_with fail
  go_loopw [14] (fun i wr=>∃j:Nat,j≤4∧i=.int .i64 j∧∃bA bC,RunAt wr R b0 (s.boxes bA (toK s.bX f (came f (Wr.enc k f n zs)).toList j) bC)∧Keep w2 wr R s (s.boxes bA (toK s.bX f (came f (Wr.enc k f n zs)).toList j) bC)) (fun i _=>4-(intOf i).toNat)
  case atStart=>exact⟨0,by omega,rfl,s.bA,s.bC,by rw [toK_zero];exact HRA.out,by rw [toK_zero];exact Keep.refl _ _ _⟩
  case round=>
   obtain⟨j,hj,rfl,bA,bC,hra,hkp⟩:=hrel
   have HRJ:=Lib.hid hra
   have HKJ:=Lib.hid hkp
   have PB:=Lib.hid (hkp.kept PB.out HGN.out.1 HGN.out.2)
   have HO:=Lib.hid (hkp.owned HRA.out HO.out (by decide) (by decide))
   clear hra hkp
   have y1:=PB.out.cell 1
   simp only [Ms.msgC,List.getElem?_toArray,List.getElem?_cons_zero,List.getElem?_cons_succ]at y1
   by_cases hlt:j<4
   ·
    have hj0:(0:Int)≤(j:Int):=by omega
    have hj4:(j:Int)<4:=by omega
    by_cases hf:(j:Int)=f
    ·
     have hfb:((j:Int)!=f)=false:=by simp [hf]
     have HT:=Lib.hid (toK_own s.bX f (came f (Wr.enc k f n zs)).toList j hf)
     go_wp2_with fail
     exact⟨⟨j+1,by omega,by go_num,bA,bC,by rw [HT.out];exact HRJ.out,by rw [HT.out];exact HKJ.out⟩,by simp [intOf];omega⟩
    ·
     have hfb:((j:Int)!=f)=true:=by simp [hf]
     have HT:=Lib.hid (toK_succ s.bX f (came f (Wr.enc k f n zs)).toList j hf)
     go_wp2_with fail
     obtain⟨A0,c0,e0,hn0,hm0,ha0,_,hr0⟩:=own_form HO.out
     obtain⟨rfl,rfl⟩:AE=A0∧cE=c0:=by injection e0 with e1 e2 e3;exact⟨e1,e3⟩
     refine(deliver_any R b0 (s.boxes bA (toK s.bX f (came f (Wr.enc k f n zs)).toList j) bC) f j hlt AE cE (Wr.enc k f n zs) wr.heap.size wr HRJ.out (by show((toK s.bX f _ j j).length+1)*48≤_;rw [toK_at];exact HL.out j hlt) (Nat.le_refl _) (fun h=>(ha0 h).2) hn0 hm0 (by rw [enc_len];have:=HZ.out;omega) (enc_small k f n zs) hr0).mono ?_
     rintro e w4 ⟨rfl,s',hcame,hra,hkp⟩
     obtain⟨bA',bC',rfl⟩:=hcame.boxes
     have HRJ2:=Lib.hid (show RunAt w4 R b0 (s.boxes bA' (setAt (toK s.bX f (came f (Wr.enc k f n zs)).toList j) j (toK s.bX f (came f (Wr.enc k f n zs)).toList j j++(came f (Wr.enc k f n zs)).toList)) bC')from hra)
     have HKJ2:=Lib.hid (show Keep w2 w4 R s (s.boxes bA' (setAt (toK s.bX f (came f (Wr.enc k f n zs)).toList j) j (toK s.bX f (came f (Wr.enc k f n zs)).toList j j++(came f (Wr.enc k f n zs)).toList)) bC')from HKJ.out.trans hkp)
     clear hra hkp hcame hr0 e0 ha0
     go_wp2_with fail
     exact⟨⟨j+1,by omega,by go_num,bA',bC',by rw [←HT.out];exact HRJ2.out,by rw [←HT.out];exact HKJ2.out⟩,by simp [intOf];omega⟩
   ·
    obtain rfl:j=4:=by omega
    clear hlt
    go_wp2_with fail
    refine bodyPost_end (results_none rfl _ _ _) rfl ?_
    exact⟨rfl,bA,bC,by rw [HPX.out];exact HRJ.out,by rw [HPX.out];exact HK.out.trans HKJ.out⟩
end Cl
end Go.Proofs.YtljpoibnkkcjdaaGreatDoor
