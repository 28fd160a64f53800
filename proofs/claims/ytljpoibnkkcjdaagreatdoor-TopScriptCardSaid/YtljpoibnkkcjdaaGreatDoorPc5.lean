import Derived.Test.YtljpoibnkkcjdaaGreatDoorPc4
set_option linter.unusedVariables false
set_option linter.unusedSimpArgs false
namespace Go.Proofs.YtljpoibnkkcjdaaGreatDoor
namespace Ms
open Go.ChangeShapes Go.WideShapes Go.ChangeAt Go.RowKit Mem Rws
attribute [local go_sem] Oper.semAt_some
theorem own_bytes {w:World} {base:Nat} {A:Option Addr} {n c:Nat} {bs:List Nat} (h:w.ownsRow base 5 1 (.slice A n c) n (Sm.bytesV (bs.take n))) (h0:0<n) (hn:n≤bs.length):
  ∃g o,A=some ⟨g,o,none⟩∧base≤g∧g<w.heap.size∧n≤c∧c≤maxLen∧∀j,j<n→ w.cell? ⟨g,o+j,none⟩=some (.int .u8 (bAt bs j:Nat)):=by
 obtain⟨hl,⟨e,h1⟩|⟨g,cap,cur,e,hb,hh,hc,hm,hs,ht⟩⟩:=h
 · omega
 ·
  cases e
  refine⟨g,0,rfl,hb,(Array.getElem?_eq_some_iff.1 hh).1,hc,hm,fun j hj=>?_⟩
  have h2:(Sm.bytesV (bs.take n))[j]?=some (.int .u8 (bAt bs j:Nat)):=by
   unfold Sm.bytesV bAt
   rw [List.getElem?_map,List.getElem?_take_of_lt hj,List.getD_eq_getElem?_getD,List.getElem?_eq_getElem (show j<bs.length by omega)]
   rfl
  rw [←ht,List.getElem?_take_of_lt (by omega)]at h2
  rw [Nat.zero_add]
  have h3:(⟨g,j,none⟩:Addr).block=g:=rfl
  simp only [World.cell?,hh]
  rw [Array.getElem?_toList]at h2
  simpa using h2
theorem _root_.Go.Proofs.YtljpoibnkkcjdaaGreatDoor.Fc.but_set {g B:Nat} {W V:World} (h:Below B W V) (i:Nat) (u:Value):Fc.But g B W (V.setCell ⟨g,i,none⟩ u):=
 ⟨by rw [World.size_setCell];exact h.size,fun k hk hg=>(Below.heap_setCell V ⟨g,i,none⟩ u k hg).trans (h.block k hk)⟩
theorem dec_own {w:World} {base:Nat} {A:Option Addr} {c n:Nat} {zs:List Int} {z:Int} (h:w.ownsRow base 3 1 (.slice A (n+1) c) (n+1) (intsV zs++[.int .i64 z])) {g:Nat} (hg:g<base) {i:Nat} {u:Value}:(w.setCell ⟨g,i,none⟩ u).ownsRow base 3 1 (.slice A (n+1) c) (n+1) (intsV (zs++[z])):=by
 rw [show intsV (zs++[z])=intsV zs++[.int .i64 z]by simp [intsV]]
 exact ownsRow_setCell_below h (by show g<base;omega) _
theorem own_put {w:World} {base:Nat} {e:TypeId} {size:Nat} {v:Value} {n:Nat} {xs:List Value} (h:w.ownsRow base e size v n xs) {D:Nat} (hD:w.heap[D]?=some (.deferred (some []))):(w.putObj D (.deferred none)).ownsRow base e size v n xs:=by
 have h':=h
 obtain⟨_,⟨hv,_⟩|⟨g,cap,cur,hv,_,hh,_⟩⟩:=h
 · exact h'.kept (grownBy_putObj' w D _) (.inl (by rw [hv];rfl))
 ·
  refine h'.kept (grownBy_putObj' w D _) (.inr fun e=>?_)
  rw [hv]at e
  cases e
  rw [hh]at hD
  cases hD
theorem grown_blk {W W':World} {row:Option Nat} {B g:Nat} {t:TypeId} {cs:Array Value} (h:Blk W g t cs) (hg:W.grownBy W' row) (hr:∀r,row=some r→B≤r∧∃o:Obj,W.heap[r]?=some o∧o.isCells=false):Blk W' g t cs:=
 h.grown hg fun e=>by
  obtain⟨_,o,ho,hc⟩:=hr g e.symm
  unfold Blk at h
  rw [h]at ho
  cases ho
  cases hc
def DecI (bs:List Nat) (w w2 W0:World) (g2 g7 y1 y2 FR:Nat) {k:Nat} (pre:List (Fin k)) (W:World):Prop:=
 ∃A c,Blk W g7 72 #[.int .i64 y1,.int .i64 y2,.int .i64 FR,.slice A pre.length c]∧W.ownsRow W0.heap.size 3 1 (.slice A pre.length c) pre.length (intsV (pre.map fun x:Fin k=>i64N (valB bs (8+8*x.val) 8)))∧
  Blk W g2 72 #[.int .i64 0,.int .i64 0,.int .i64 0,.slice none 0 0]∧Below w.heap.size w W∧Below w2.heap.size w2 W∧W0.heap.size≤W.heap.size
theorem decI_own (bs:List Nat) (w w2 W0:World) (g2 g7 y1 y2 FR:Nat) {k:Nat} (h1:w.heap.size≤W0.heap.size) (h2:w2.heap.size≤W0.heap.size):OwnFrom W0.heap.size (DecI bs w w2 W0 g2 g7 y1 y2 FR (k:=k)):=by
 intro s X Y r ⟨A,c,a1,a2,a3,a4,a5,a6⟩ hg hr
 refine⟨A,c,grown_blk a1 hg hr,?_,grown_blk a3 hg hr,ownFrom_below (β:=Unit) (Nat.le_refl _) h1 () X Y r a4 hg hr,ownFrom_below (β:=Unit) (Nat.le_refl _) h2 () X Y r a5 hg hr,Nat.le_trans a6 hg.size⟩
 have a2':=a2
 obtain⟨_,⟨hv,_⟩|⟨g,cap,cur,hv,_,hh,_⟩⟩:=a2
 · exact a2'.kept hg (.inl (by rw [hv];rfl))
 ·
  refine a2'.kept hg (.inr fun e=>?_)
  rw [hv]at e
  obtain⟨_,o,ho,hc⟩:=hr g (by rw [←e];rfl)
  rw [hh]at ho
  cases ho
  cases hc
def CutD (w w2:World) (g2 b g y1 y2 FR:Nat) (wx:World):Prop:=
 g2<g∧b<g∧w2.heap.size≤g∧Blk wx g2 72 #[.int .i64 0,.int .i64 0,.int .i64 0,.slice none 0 0]∧Blk wx g 72 #[.int .i64 y1,.int .i64 y2,.int .i64 FR,.slice none 0 0]∧Below w.heap.size w wx∧Below w2.heap.size w2 wx
set_option maxRecDepth 100000 in
set_option maxHeartbeats 4000000 in
theorem decode_any (A:Option Addr) (c:Nat) (bs:List Nat) (B:Nat) (w:World) (hB:B≤w.heap.size) (hA:A=none→c=0) (hnc:bs.length≤c) (hcm:c≤maxLen) (hc:bs.length≤140737488351232) (hbs:∀x∈bs,x<256) (hr:Rd w B 1 A bs.length (Sm.bytesV bs)):
  Calls Tryz.prog 71 #[.slice A bs.length c] w fun e w'=>DecAs w w' bs e:=by
 have HR:=Lib.hid hr
 have HS:=Lib.hid hbs
 have iZ:(Tryz.prog.info? 72).map (·.size)=some (#[.int .i64 0,.int .i64 0,.int .i64 0,.slice none 0 0]:Array Value).size:=by kernel_rfl
 have oZ:(#[.int .i64 0,.int .i64 0,.int .i64 0,.slice none 0 0]:Array Value).all (·.oneCell')=true:=by simp [Value.oneCell']
 clear hr hbs
 refine(callsIn_wide (n:=3)).1 ?_
 refine callsIn_of_wp_marks Tryz.func71 rfl trivial ?_ rfl
 simp only [Tryz.ntmps71,List.size_toArray,List.length_cons,List.length_nil,Nat.reduceAdd,Nat.reduceSub,Array.replicate_succ,Array.replicate_zero,List.push_toArray,List.append_toArray,List.nil_append,List.cons_append]
 refine wpIn_wide.2 ?_
 go_upto_region 1 with fail
 have H2:=Lib.hid (show Blk (w.alloc (.cells #[.int .i64 0,.int .i64 0,.int .i64 0,.slice none 0 0] 72)) w.heap.size 72 #[.int .i64 0,.int .i64 0,.int .i64 0,.slice none 0 0]from Blk.new rfl)
 have HB:=Lib.hid (show Below w.heap.size w (w.alloc (.cells #[.int .i64 0,.int .i64 0,.int .i64 0,.slice none 0 0] 72))from(Below.refl _ _).alloc (Nat.le_refl _) _)
 generalize(w.alloc (.cells #[.int .i64 0,.int .i64 0,.int .i64 0,.slice none 0 0] 72))=w1 at*
 have HR0:=HR
 have HR:=Lib.hid (HR.out.below (HB.out.mono hB))
 obtain⟨g2,hg2⟩:∃g,w.heap.size=g:=⟨_,rfl⟩
 have HGW:=Lib.hid hg2
 have HG:=Lib.hid (show w.heap.size≤g2 by omega)
 rw [hg2]at H2 hB ⊢
 clear hg2
 by_cases q1:220<bs.length
 ·
  have HE:=Lib.hid (show decE bs=1 from if_pos q1)
  have q1':(220:Int)<(bs.length:Int):=by omega
  clear q1
  go_wp2_with(refine wpList_store_row rfl 72 _ _ rfl g2 #[.int .i64 0,.int .i64 0,.int .i64 0,.slice none 0 0] rfl rfl 72 _ H2.out iZ rfl oZ ?_)
  refine Fc.out_none _ _ _ ?_
  refine ret_row2 (x:=.int .i64 1) rfl rfl rfl (H2.out.setRow #[.int .i64 0,.int .i64 0,.int .i64 0,.slice none 0 0]) ⟨by rw [Tryz.underlying72],iZ⟩ rfl ?_
  unfold DecAs
  rw [if_neg (by rw [HE.out];decide)]
  exact⟨by rw [HE.out];rfl,below_setRow HB.out HG.out _⟩
 have HD1:=Lib.hid (show decE bs=if bs.length<12∨bAt bs 0≠87 then 2 else if Sm.okB bs=false then 5 else if 24<decN bs then 6 else if bs.length≠12+8*decN bs then 2 else wrong (bAt bs 1) (bAt bs 2) (valB bs 3 4) (decN bs)from if_neg q1)
 by_cases q2:bs.length<12
 ·
  have HE:=Lib.hid (show decE bs=2 by rw [HD1.out,if_pos (.inl q2)])
  have q2':(bs.length:Int)<12:=by omega
  have q1':(bs.length:Int)≤220:=by omega
  clear q1 q2
  go_wp2_with(refine wpList_store_row rfl 72 _ _ rfl g2 #[.int .i64 0,.int .i64 0,.int .i64 0,.slice none 0 0] rfl rfl 72 _ H2.out iZ rfl oZ ?_)
  refine Fc.out_none _ _ _ ?_
  refine ret_row2 (x:=.int .i64 2) rfl rfl rfl (H2.out.setRow #[.int .i64 0,.int .i64 0,.int .i64 0,.slice none 0 0]) ⟨by rw [Tryz.underlying72],iZ⟩ rfl ?_
  unfold DecAs
  rw [if_neg (by rw [HE.out];decide)]
  exact⟨by rw [HE.out];rfl,below_setRow HB.out HG.out _⟩
 obtain⟨b0,o0,rfl,hb0,hcl⟩:=bytes_cells HR0.out (by omega)
 have x0:=(HB.out.cell (p:=⟨b0,o0+0,none⟩) (show b0<w.heap.size by rw [HGW.out];omega)).trans (hcl 0 (by omega))
 rw [Nat.add_zero]at x0
 clear hcl
 by_cases q3:bAt bs 0=87
 case neg=>
  have HE:=Lib.hid (show decE bs=2 by rw [HD1.out,if_pos (.inr q3)])
  have q3':(((bAt bs 0:Nat):Int)!=87)=true:=bne_iff_ne.2 (by omega)
  have q2':¬(bs.length:Int)<12:=by omega
  have q1':(bs.length:Int)≤220:=by omega
  generalize bAt bs 0=y0 at*
  clear q3 q2 q1
  go_wp2_with(refine wpList_store_row rfl 72 _ _ rfl g2 #[.int .i64 0,.int .i64 0,.int .i64 0,.slice none 0 0] rfl rfl 72 _ H2.out iZ rfl oZ ?_)
  refine Fc.out_none _ _ _ ?_
  refine ret_row2 (x:=.int .i64 2) rfl rfl rfl (H2.out.setRow #[.int .i64 0,.int .i64 0,.int .i64 0,.slice none 0 0]) ⟨by rw [Tryz.underlying72],iZ⟩ rfl ?_
  unfold DecAs
  rw [if_neg (by rw [HE.out];decide)]
  exact⟨by rw [HE.out];rfl,below_setRow HB.out HG.out _⟩
 have HD2:=Lib.hid (HD1.out.trans (if_neg (show ¬(bs.length<12∨bAt bs 0≠87)by omega)))
 have q3':(((bAt bs 0:Nat):Int)!=87)=false:=bne_eq_false_iff_eq.2 (by omega)
 have q2':¬(bs.length:Int)<12:=by omega
 have q1':(bs.length:Int)≤220:=by omega
 generalize bAt bs 0=y0 at*
 clear q3
 go_wp2_with fail
 have hOp:=Sm.open_any (some ⟨b0,o0,none⟩) c bs B w1 (Nat.le_trans hB (by rw [←HGW.out];exact HB.out.size)) hA hnc hcm hc HS.out HR.out
 refine hOp.mono ?_
 intro e w2 hop
 clear hOp x0
 have hg1:=H2.out.lt
 rcases hop with⟨hk,A2,c2,rfl,ho,hb2⟩|⟨hk,rfl,hb2⟩
 case inr=>
  have HE:=Lib.hid (show decE bs=5 by rw [HD2.out,if_pos hk])
  have H2:=Lib.hid (H2.out.below hb2 H2.out.lt)
  have HB:=Lib.hid (onward HB.out (Nat.le_refl _) hb2)
  clear hk hb2 HD2 HD1
  go_wp2_with(refine wpList_store_row rfl 72 _ _ rfl g2 #[.int .i64 0,.int .i64 0,.int .i64 0,.slice none 0 0] rfl rfl 72 _ H2.out iZ rfl oZ ?_)
  refine Fc.out_none _ _ _ ?_
  refine ret_row2 (x:=.int .i64 5) rfl rfl rfl (H2.out.setRow #[.int .i64 0,.int .i64 0,.int .i64 0,.slice none 0 0]) ⟨by rw [Tryz.underlying72],iZ⟩ rfl ?_
  unfold DecAs
  rw [if_neg (by rw [HE.out];decide)]
  exact⟨by rw [HE.out];rfl,below_setRow HB.out HG.out _⟩
 have HD3:=Lib.hid (HD2.out.trans (if_neg (by rw [hk];simp)))
 obtain⟨b,o,rfl,hbw,hbl,hn2,hcm2,hcl⟩:=own_bytes ho (by omega) (by omega)
 have H2:=Lib.hid (H2.out.below hb2 H2.out.lt)
 have HB:=Lib.hid (onward HB.out (Nat.le_refl _) hb2)
 have HC:=Lib.hid hcl
 have HBL:=Lib.hid (show g2<b∧b<w2.heap.size by omega)
 have HCM:=Lib.hid hcm2
 clear hk hb2 HD2 HD1 ho hcl hbw hbl hcm2 hg1
 obtain⟨L,hL⟩:∃L,bs.length-4=L:=⟨_,rfl⟩
 rw [hL]at HC hn2 ⊢
 have HLB:=Lib.hid (show bs.length=L+4 by omega)
 have hL8:(8:Int)≤(L:Int):=by omega
 have x7:=HC.out 7 (by omega)
 have HNB:=Lib.hid (bAt_lt HS.out 7)
 have HDN:=Lib.hid (show decN bs=bAt bs 7 from rfl)
 generalize bAt bs 7=N at*
 rw [HDN.out]at HD3
 have hN0:(0:Int)≤(N:Int):=by omega
 have hN1:(N:Int)<256:=by have:=HNB.out;omega
 have hw7:IntKind.i64.wrap (N:Int)=(N:Int):=wrap_small (by omega) (by omega)
 by_cases q4:24<N
 ·
  have HE:=Lib.hid (show decE bs=6 by rw [HD3.out,if_pos q4])
  have q4':(24:Int)<(N:Int):=by omega
  clear q4 HD3 HLB
  go_wp2_with(refine wpList_store_row rfl 72 _ _ rfl g2 #[.int .i64 0,.int .i64 0,.int .i64 0,.slice none 0 0] rfl rfl 72 _ H2.out iZ rfl oZ ?_)
  refine Fc.out_none _ _ _ ?_
  refine ret_row2 (x:=.int .i64 6) rfl rfl rfl (H2.out.setRow #[.int .i64 0,.int .i64 0,.int .i64 0,.slice none 0 0]) ⟨by rw [Tryz.underlying72],iZ⟩ rfl ?_
  unfold DecAs
  rw [if_neg (by rw [HE.out];decide)]
  exact⟨by rw [HE.out];rfl,below_setRow HB.out HG.out _⟩
 have HD4:=Lib.hid (HD3.out.trans (if_neg q4))
 have q4':(N:Int)≤24:=by omega
 have hLN:(8:Int)+8*(N:Int)=((8+8*N:Nat):Int):=by omega
 by_cases q5:L=8+8*N
 case neg=>
  have HE:=Lib.hid (show decE bs=2 by rw [HD4.out,if_pos (by have:=HLB.out;omega)])
  have q5':((L:Int)!=((8+8*N:Nat):Int))=true:=bne_iff_ne.2 (by omega)
  generalize 8+8*N=L' at*
  clear q5 q4 HD4 HD3
  go_wp2_with(refine wpList_store_row rfl 72 _ _ rfl g2 #[.int .i64 0,.int .i64 0,.int .i64 0,.slice none 0 0] rfl rfl 72 _ H2.out iZ rfl oZ ?_)
  refine Fc.out_none _ _ _ ?_
  refine ret_row2 (x:=.int .i64 2) rfl rfl rfl (H2.out.setRow #[.int .i64 0,.int .i64 0,.int .i64 0,.slice none 0 0]) ⟨by rw [Tryz.underlying72],iZ⟩ rfl ?_
  unfold DecAs
  rw [if_neg (by rw [HE.out];decide)]
  exact⟨by rw [HE.out];rfl,below_setRow HB.out HG.out _⟩
 have HDE:=Lib.hid (HD4.out.trans (if_neg (by have:=HLB.out;omega)))
 have q5':((L:Int)!=((8+8*N:Nat):Int))=false:=bne_eq_false_iff_eq.2 (by omega)
 have HLN:=Lib.hid q5
 have HN24:=Lib.hid (show N≤24 by omega)
 generalize hLL:8+8*N=L' at*
 have HLL:=Lib.hid hLL
 clear q5 q4 HD4 HD3 hLL
 go_upto_region 13 with fail
 have x1:=HC.out 1 (by omega)
 have x2:=HC.out 2 (by omega)
 have HY1:=Lib.hid (bAt_lt HS.out 1)
 have HY2:=Lib.hid (bAt_lt HS.out 2)
 obtain⟨y1,hy1⟩:∃y,bAt bs 1=y:=⟨_,rfl⟩
 obtain⟨y2,hy2⟩:∃y,bAt bs 2=y:=⟨_,rfl⟩
 have HQ1:=Lib.hid hy1
 have HQ2:=Lib.hid hy2
 rw [hy1]at x1 HY1
 rw [hy2]at x2 HY2
 have h10:(0:Int)≤(y1:Int):=by omega
 have h11:(y1:Int)<256:=by have:=HY1.out;omega
 have h20:(0:Int)≤(y2:Int):=by omega
 have h21:(y2:Int)<256:=by have:=HY2.out;omega
 have hw1:IntKind.i64.wrap (y1:Int)=(y1:Int):=wrap_small (by omega) (by omega)
 have hw2:IntKind.i64.wrap (y2:Int)=(y2:Int):=wrap_small (by omega) (by omega)
 have hL7:(7:Int)≤(c2:Int):=by omega
 have hc3:¬c2=3:=by omega
 have b1:(1:Int)<(L:Int):=by omega
 have b2:(2:Int)<(L:Int):=by omega
 obtain⟨FR,hFR⟩:∃n,valB bs 3 4=n:=⟨_,rfl⟩
 have HFE:=Lib.hid hFR
 have HFL:=Lib.hid (show FR<256 ^ 4 from by rw [←hFR];exact valB_lt HS.out 3 4)
 have HFI:=Lib.hid (show i64N (valB bs 3 4)=(FR:Int)from by rw [hFR];exact i64N_small (by have h:FR<256 ^ 4:=HFL.out;have:FR<4294967296:=h;omega))
 have HCW:=Lib.hid (fun v (hv:Below w2.heap.size w2 v) j (hj:j<L)=>(hv.cell (p:=⟨b,o+j,none⟩) HBL.out.2).trans (HC.out j hj))
 have CG:=Lib.hid (fun v (hv:Below w2.heap.size w2 v) (k:Nat)=>show Calls Tryz.prog 95 #[.slice (some ⟨b,o+3,none⟩) 4 k] v (fun e w'=>e=.returned (.int .i64 (FR:Nat))∧v=w')from by
  have h:=get_any bs HS.out 3 4 b (o+3) k v (by omega) (fun j hj=>by rw [Nat.add_assoc];exact HCW.out v hv (3+j) (by omega))
  rw [HFI.out]at h
  exact h)
 have HXX:=Lib.hid (And.intro x1 x2)
 clear hy1 hy2 x1 x2 x7 hFR
 go_cut [7]from 48 to 59 (fun s7 wx=>∃g,s7=.pointer (some ⟨g,0,none⟩)∧CutD w w2 g2 b g y1 y2 FR wx)
 case first=>
  have HW2:=Lib.hid (Below.refl w2.heap.size w2).drew
  have HGB:=Lib.hid (show g2<w2.drew.heap.size∧b<w2.drew.heap.size∧w2.heap.size≤w2.drew.heap.size from⟨H2.out.lt,HBL.out.2,Nat.le_refl _⟩)
  have HS_:=HXX.out
  have H2:=Lib.hid H2.out.drew
  have HB:=Lib.hid HB.out.drew
  refine wp_region_noPanic ?_
  refine Rg.beginR [2,6] (fun w'=> w'.cell? ⟨b,o+1,none⟩=some (.int .u8 y1)∧ w'.cell? ⟨b,o+2,none⟩=some (.int .u8 y2)) (by kernel_rfl) ?_
  have HS_:=(show w2.drew.cell? ⟨b,o+1,none⟩=some (.int .u8 y1)∧ w2.drew.cell? ⟨b,o+2,none⟩=some (.int .u8 y2)from HS_)
  generalize w2.drew=V0 at*
  refine Rg.tp 0 ⟨some 48,.move (.tmp 4),_,_,_,none⟩ (v:=?_) rfl ?_ ?_
  rotate_left 1
  · (intro w;go_simp;(try with_reducible rfl))
  try simp only [Rg.lp]
  refine Rg.tp 1 ⟨some 49,.indexAddr 58 (.tmp 48) (.const (.int .i64 1)),_,_,_,none⟩ (v:=?_) rfl ?_ ?_
  rotate_left 1
  · (intro w;go_simp;(try with_reducible rfl))
  try simp only [Rg.lp]
  refine Rg.stp_s 2 ?_ HS_ (hy:=?_) (h:=?_)
  rotate_left 1
  · (intro w hSw;(try dsimp only at hSw);(try go_split_ands);go_simp;(try with_reducible rfl))
  try simp only [Rg.lp]
  refine Rg.tp 3 ⟨some 51,.convert 5 3 (.tmp 50),_,_,_,none⟩ (v:=.int .i64 (y1:Nat)) rfl ?_ ?_
  · (intro w;go_simp;(try with_reducible rfl))
  try simp only [Rg.lp]
  refine Rg.tp 4 ⟨some 52,.move (.tmp 4),_,_,_,none⟩ (v:=?_) rfl ?_ ?_
  rotate_left 1
  · (intro w;go_simp;(try with_reducible rfl))
  try simp only [Rg.lp]
  refine Rg.tp 5 ⟨some 53,.indexAddr 58 (.tmp 52) (.const (.int .i64 2)),_,_,_,none⟩ (v:=?_) rfl ?_ ?_
  rotate_left 1
  · (intro w;go_simp;(try with_reducible rfl))
  try simp only [Rg.lp]
  refine Rg.stp_s 6 ?_ HS_ (hy:=?_) (h:=?_)
  rotate_left 1
  · (intro w hSw;(try dsimp only at hSw);(try go_split_ands);go_simp;(try with_reducible rfl))
  try simp only [Rg.lp]
  refine Rg.tp 7 ⟨some 55,.convert 5 3 (.tmp 54),_,_,_,none⟩ (v:=.int .i64 (y2:Nat)) rfl ?_ ?_
  · (intro w;go_simp;(try with_reducible rfl))
  try simp only [Rg.lp]
  refine Rg.tp 8 ⟨some 56,.move (.tmp 4),_,_,_,none⟩ (v:=?_) rfl ?_ ?_
  rotate_left 1
  · (intro w;go_simp;(try with_reducible rfl))
  try simp only [Rg.lp]
  refine Rg.tp 9 ⟨some 57,.slice 58 (.tmp 56) (some (.const (.int .i64 3))) (some (.const (.int .i64 7))) none,_,_,_,none⟩ (v:=?_) rfl ?_ ?_
  rotate_left 1
  · (intro w;go_simp;(try with_reducible rfl))
  try simp only [Rg.lp]
  refine Rg.twoR (i:=10) (j:=12) (oi:=⟨some 58,.call { callee:=.value (.func 95),args:=#[.tmp 57],argTypes:=_ },_,_,_,none⟩) (oj:=⟨some 7,.alloc 72,_,_,_,none⟩) (by kernel_rfl) rfl rfl ?_ ?_
  ·
   refine Rg.stepS ?_
   intro K hK
   rw [if_pos (by rfl)]
   go_simp
   go_at_call 95
   refine(CG.out V0 HW2.out _).mono ?_
   rintro e w' ⟨rfl,rfl⟩
   go_wp2_with fail
   refine hK.out _ _ HS_ ?_
   clear hK K
   try simp only [Rg.lp]
   refine Rg.tp 11 ⟨some 59,.build 72 #[(0,.tmp 51),(1,.tmp 55),(2,.tmp 58)],_,_,_,none⟩ (v:=.agg #[.int .i64 y1,.int .i64 y2,.int .i64 FR,.slice none 0 0]) rfl ?_ ?_
   · (intro w;go_simp;(try with_reducible rfl))
   try simp only [Rg.lp]
   refine Rg.stp_o 12 ?_
   refine Rg.stepS ?_
   intro K hK
   go_simp
   have H2:=Lib.hid (H2.out.alloc (.cells #[.int .i64 0,.int .i64 0,.int .i64 0,.slice none 0 0] 72))
   have H7:=Lib.hid (Blk.fresh V0 72 #[.int .i64 0,.int .i64 0,.int .i64 0,.slice none 0 0])
   have HB:=Lib.hid (HB.out.alloc HB.out.size (.cells #[.int .i64 0,.int .i64 0,.int .i64 0,.slice none 0 0] 72))
   have HW2:=Lib.hid (HW2.out.alloc HW2.out.size (.cells #[.int .i64 0,.int .i64 0,.int .i64 0,.slice none 0 0] 72))
   generalize(V0.alloc (.cells #[.int .i64 0,.int .i64 0,.int .i64 0,.slice none 0 0] 72))=V1 at*
   obtain⟨g7,hg7⟩:∃g,V0.heap.size=g:=⟨_,rfl⟩
   rw [hg7]at H7 HGB ⊢
   clear hg7 HS_
   have HS_: V1.cell? ⟨b,o+1,none⟩=some (.int .u8 y1)∧ V1.cell? ⟨b,o+2,none⟩=some (.int .u8 y2):=⟨by rw [←HQ1.out];exact HCW.out V1 HW2.out 1 (by omega),by rw [←HQ2.out];exact HCW.out V1 HW2.out 2 (by omega)⟩
   refine hK.out _ _ HS_ ?_
   clear hK K
   try simp only [Rg.lp]
   refine Rg.stp_o 13 ?_
   refine Rg.stepF ?_ ?_
   · kernel_rfl
   intro K hK
   rw [if_pos (by rfl)]
   refine wp_store_row 72 _ _ rfl g7 #[.int .i64 y1,.int .i64 y2,.int .i64 FR,.slice none 0 0] rfl rfl 72 _ H7.out (by kernel_rfl) rfl (by simp [Value.oneCell']) ?_
   have H2:=Lib.hid (H2.out.setRow_other (g':=g7) (by have:=HGB.out;omega) #[.int .i64 y1,.int .i64 y2,.int .i64 FR,.slice none 0 0])
   have H7:=Lib.hid (H7.out.setRow #[.int .i64 y1,.int .i64 y2,.int .i64 FR,.slice none 0 0])
   have HB:=Lib.hid (below_setRow HB.out (show w.heap.size≤g7 by have:=HG.out;have:=HGB.out;omega) #[.int .i64 y1,.int .i64 y2,.int .i64 FR,.slice none 0 0])
   have HW2:=Lib.hid (below_setRow HW2.out (show w2.heap.size≤g7 by have:=HGB.out;omega) #[.int .i64 y1,.int .i64 y2,.int .i64 FR,.slice none 0 0])
   generalize(V1.setRow g7 #[.int .i64 y1,.int .i64 y2,.int .i64 FR,.slice none 0 0])=V2 at*
   refine hK.out _ _ ?_
   clear hK K
   try simp only [Rg.lp]
   refine Rg.doneR (by kernel_rfl) ?_ _
   refine NoPanic.normal ?_
   go_wp2_with fail
   go_meet
   case rel=>exact⟨g7,rfl,HGB.out.1,HGB.out.2.1,HGB.out.2.2,H2.out,H7.out,HB.out,HW2.out⟩
  ·
   refine Rg.stepS ?_
   intro K hK
   go_simp
   have H2:=Lib.hid (H2.out.alloc (.cells #[.int .i64 0,.int .i64 0,.int .i64 0,.slice none 0 0] 72))
   have H7:=Lib.hid (Blk.fresh V0 72 #[.int .i64 0,.int .i64 0,.int .i64 0,.slice none 0 0])
   have HB:=Lib.hid (HB.out.alloc HB.out.size (.cells #[.int .i64 0,.int .i64 0,.int .i64 0,.slice none 0 0] 72))
   have HW2:=Lib.hid (HW2.out.alloc HW2.out.size (.cells #[.int .i64 0,.int .i64 0,.int .i64 0,.slice none 0 0] 72))
   generalize(V0.alloc (.cells #[.int .i64 0,.int .i64 0,.int .i64 0,.slice none 0 0] 72))=V1 at*
   obtain⟨g7,hg7⟩:∃g,V0.heap.size=g:=⟨_,rfl⟩
   rw [hg7]at H7 HGB ⊢
   clear hg7 HS_
   have HS_: V1.cell? ⟨b,o+1,none⟩=some (.int .u8 y1)∧ V1.cell? ⟨b,o+2,none⟩=some (.int .u8 y2):=⟨by rw [←HQ1.out];exact HCW.out V1 HW2.out 1 (by omega),by rw [←HQ2.out];exact HCW.out V1 HW2.out 2 (by omega)⟩
   refine hK.out _ _ HS_ ?_
   clear hK K
   try simp only [Rg.lp]
   refine Rg.stp_o 10 ?_
   refine Rg.stepS ?_
   intro K hK
   rw [if_pos (by rfl)]
   go_simp
   go_at_call 95
   refine(CG.out V1 HW2.out _).mono ?_
   rintro e w' ⟨rfl,rfl⟩
   go_wp2_with fail
   refine hK.out _ _ HS_ ?_
   clear hK K
   try simp only [Rg.lp]
   refine Rg.tp 11 ⟨some 59,.build 72 #[(0,.tmp 51),(1,.tmp 55),(2,.tmp 58)],_,_,_,none⟩ (v:=.agg #[.int .i64 y1,.int .i64 y2,.int .i64 FR,.slice none 0 0]) rfl ?_ ?_
   · (intro w;go_simp;(try with_reducible rfl))
   try simp only [Rg.lp]
   refine Rg.stp_o 13 ?_
   refine Rg.stepF ?_ ?_
   · kernel_rfl
   intro K hK
   rw [if_pos (by rfl)]
   refine wp_store_row 72 _ _ rfl g7 #[.int .i64 y1,.int .i64 y2,.int .i64 FR,.slice none 0 0] rfl rfl 72 _ H7.out (by kernel_rfl) rfl (by simp [Value.oneCell']) ?_
   have H2:=Lib.hid (H2.out.setRow_other (g':=g7) (by have:=HGB.out;omega) #[.int .i64 y1,.int .i64 y2,.int .i64 FR,.slice none 0 0])
   have H7:=Lib.hid (H7.out.setRow #[.int .i64 y1,.int .i64 y2,.int .i64 FR,.slice none 0 0])
   have HB:=Lib.hid (below_setRow HB.out (show w.heap.size≤g7 by have:=HG.out;have:=HGB.out;omega) #[.int .i64 y1,.int .i64 y2,.int .i64 FR,.slice none 0 0])
   have HW2:=Lib.hid (below_setRow HW2.out (show w2.heap.size≤g7 by have:=HGB.out;omega) #[.int .i64 y1,.int .i64 y2,.int .i64 FR,.slice none 0 0])
   generalize(V1.setRow g7 #[.int .i64 y1,.int .i64 y2,.int .i64 FR,.slice none 0 0])=V2 at*
   refine hK.out _ _ ?_
   clear hK K
   try simp only [Rg.lp]
   refine Rg.doneR (by kernel_rfl) ?_ _
   refine NoPanic.normal ?_
   go_wp2_with fail
   go_meet
   case rel=>exact⟨g7,rfl,HGB.out.1,HGB.out.2.1,HGB.out.2.2,H2.out,H7.out,HB.out,HW2.out⟩
 case rest=>
  obtain⟨g7,rfl,HC7,HC8,HC9,H2c,H7c,HBc,HW2c⟩:=hcut
  have H2:=Lib.hid H2c
  have H7:=Lib.hid H7c
  have HB:=Lib.hid HBc
  have HW2:=Lib.hid HW2c
  have HGB:=Lib.hid (show g2<g7∧b<g7∧w2.heap.size≤g7 from⟨HC7,HC8,HC9⟩)
  clear H2c H7c HBc HW2c HC7 HC8 HC9
  obtain⟨q,hq,hq8⟩:∃q,(if c2=8 then(some ⟨b,o,none⟩:Option Addr)else some ⟨b,o+8,none⟩)=some ⟨b,q,none⟩∧(0<N→q=o+8):=by
   by_cases h:c2=8
   · exact⟨o,if_pos h,fun h0=>by have:=HLN.out;have:=HLL.out;omega⟩
   · exact⟨o+8,if_neg h,fun _=>rfl⟩
  have HQ8:=Lib.hid hq8
  clear hq8
  go_wp2_with(go_at_call 96;refine(Fc.chunk_in _ _ _ _).mono ?_;rintro e w' ⟨rfl,rfl⟩)
  clear hq
  have hg7:=H7.out.lt
  have HL8:=Lib.hid (show L-8=8*N by have:=HLN.out;have:=HLL.out;omega)
  have H2:=Lib.hid ((H2.out.alloc (.cells #[.slice (some ⟨b,q,none⟩) (L-8) (c2-8)] 58)).alloc (.cells #[.int .i64 8] 3))
  have H7:=Lib.hid ((H7.out.alloc (.cells #[.slice (some ⟨b,q,none⟩) (L-8) (c2-8)] 58)).alloc (.cells #[.int .i64 8] 3))
  have HB:=Lib.hid ((HB.out.alloc HB.out.size (.cells #[.slice (some ⟨b,q,none⟩) (L-8) (c2-8)] 58)).alloc (by have:=HB.out.size;simp;omega) (.cells #[.int .i64 8] 3))
  have HW2:=Lib.hid ((HW2.out.alloc HW2.out.size (.cells #[.slice (some ⟨b,q,none⟩) (L-8) (c2-8)] 58)).alloc (by have:=HW2.out.size;simp;omega) (.cells #[.int .i64 8] 3))
  have HCS:=Lib.hid (Blk.cell ((Blk.fresh wc 58 #[.slice (some ⟨b,q,none⟩) (L-8) (c2-8)]).alloc (.cells #[.int .i64 8] 3)) 0)
  have HCN:=Lib.hid (Blk.cell (Blk.fresh (wc.alloc (.cells #[.slice (some ⟨b,q,none⟩) (L-8) (c2-8)] 58)) 3 #[.int .i64 8]) 0)
  have HSZ:=Lib.hid (show((wc.alloc (.cells #[.slice (some ⟨b,q,none⟩) (L-8) (c2-8)] 58)).alloc (.cells #[.int .i64 8] 3)).heap.size=wc.heap.size+2 by simp)
  rw [show(wc.alloc (.cells #[.slice (some ⟨b,q,none⟩) (L-8) (c2-8)] 58)).heap.size=wc.heap.size+1 by simp]at HCN
  have HWB:=Lib.hid HB.out.size
  generalize((wc.alloc (.cells #[.slice (some ⟨b,q,none⟩) (L-8) (c2-8)] 58)).alloc (.cells #[.int .i64 8] 3))=W0 at*
  obtain⟨B0,hB0⟩:∃n,wc.heap.size=n:=⟨_,rfl⟩
  rw [hB0]at HCS HCN HSZ hg7 ⊢
  refine(wpIn_wide (n:=3)).1 ?_
  refine Fc.rangeF (F:=Fence.wide) (n:=3) (t:=63) (d:=8) rfl (by omega) (gf:=119) (lb:=#[.pointer (some ⟨B0,0,none⟩),.pointer (some ⟨B0+1,0,none⟩)]) rfl trivial (enters_of Tryz.func119 (by kernel_rfl) rfl) (fun x:Fin N=>Fc.pieceV b q x)
   (Fc.chunk_stops 2 (by omega) B0 (B0+1) b q N (c2-8) g7 (B0+2) (by have:=HN24.out;omega) (by have:=HL8.out;omega) ⟨by have:=HGB.out;omega,by have:=HGB.out;omega⟩ ⟨by omega,by omega⟩ ⟨by omega,by omega⟩ W0 (by rw [HSZ.out];omega) (by rw [HCS.out,HL8.out];rfl) (by rw [HCN.out];rfl))
   Fc.But.trans (Fc.But.turn (by rw [HSZ.out];omega)) (DecI bs w w2 W0 g2 g7 y1 y2 FR) (decI_own bs w w2 W0 g2 g7 y1 y2 FR HB.out.size HW2.out.size) ?start ?assign ?body ?done
  case start=>exact⟨none,0,H7.out,World.ownsRow_nil _ _ _ _,H2.out,HB.out,HW2.out,Nat.le_refl _⟩
  case assign=>
   intro l x W K hK
   simp only [List.setIfInBounds_toArray,List.set_cons_zero,List.set_cons_succ]at hK ⊢
   gi_wp2
   exact hK
  case body=>
   rintro l pre ⟨i,hi⟩ W ⟨A,c3,J7,JV,J2,JB,JW,JS0⟩ hlen
   have HG70:=Lib.hid (show g7<W0.heap.size∧g2<W0.heap.size by have:=HSZ.out;have:=HGB.out;omega)
   have HWB:=Lib.hid (show w.heap.size≤W0.heap.size∧w2.heap.size≤W0.heap.size from⟨HB.out.size,HW2.out.size⟩)
   have HWS:=Lib.hid (show W0.heap.size≤W.heap.size from JS0)
   have hn24:N≤24:=HN24.out
   have HZ:=Lib.hid (show i64N (valB bs (8+8*(⟨i,hi⟩:Fin N).val) 8)=i64N (valB bs (8+8*i) 8)from rfl)
   have CGI:=Lib.hid (fun v (hv:Below w2.heap.size w2 v) (k:Nat)=>show Calls Tryz.prog 95 #[.slice (some ⟨b,q+8*i,none⟩) 8 k] v (fun e w'=>e=.returned (.int .i64 (i64N (valB bs (8+8*i) 8)))∧v=w')from
    get_any bs HS.out (8+8*i) 8 b (q+8*i) k v (by omega) (fun j hj=>by
     have h:=HCW.out v hv (8+8*i+j) (by have:=HLN.out;have:=HLL.out;omega)
     have hq:=HQ8.out (by omega)
     rw [show q+8*i+j=o+(8+8*i+j)by omega]
     exact h))
   obtain⟨Zv,hZv⟩:∃z,i64N (valB bs (8+8*i) 8)=z:=⟨_,rfl⟩
   rw [hZv]at CGI
   have HZV:=Lib.hid hZv
   clear hZv HZ JS0
   have J7:=Lib.hid J7.drew
   have J2:=Lib.hid J2.drew
   have JB:=Lib.hid JB.drew
   have JW:=Lib.hid JW.drew
   have JV:=Lib.hid (Nd.ownsRow_below JV (Below.refl W.heap.size W).drew)
   have JK:=Lib.hid (KeepsOthers.drew W)
   have JX:=Lib.hid (Below.refl W0.heap.size W).drew
   refine wpIn_block ?_
   refine Fc.beginIn [1] (fun w'=> w'.cell? ⟨g7,3,none⟩=some (.slice A pre.length c3)) (by kernel_rfl) (Fc.no_defer (by rfl)) ?_
   have HS_: W.drew.cell? ⟨g7,3,none⟩=some (.slice A pre.length c3):=by rw [J7.out.cell];rfl
   generalize W.drew=V0 at*
   simp only [Fc.pieceV,List.setIfInBounds_toArray,List.set_cons_zero,List.set_cons_succ]
   refine Rg.tp 0 ⟨some 64,.fieldAddr 72 (.tmp 7) 3,_,_,_,none⟩ (v:=?_) rfl ?_ ?_
   rotate_left 1
   · (intro w;go_simp;(try with_reducible rfl))
   try simp only [Rg.lp]
   refine Rg.stp_s 1 (.slice A pre.length c3) HS_ (hy:=?_) (h:=?_)
   · (intro w hSw;(try dsimp only at hSw);(try go_split_ands);go_simp;(try with_reducible rfl))
   try simp only [Rg.lp]
   refine Rg.tp 2 ⟨some 66,.move (.tmp 8),_,_,_,none⟩ (v:=?_) rfl ?_ ?_
   rotate_left 1
   · (intro w;go_simp;(try with_reducible rfl))
   try simp only [Rg.lp]
   refine Rg.stp_o 3 ?_
   refine Rg.stepS ?_
   intro K hK
   rw [if_pos (by rfl)]
   go_simp
   go_at_call 95
   refine(CGI.out _ JW.out _).mono ?_
   rintro e w' ⟨rfl,rfl⟩
   go_wp2_with fail
   refine hK.out _ _ HS_ ?_
   clear hK K
   try simp only [Rg.lp]
   refine Rg.stp_o 4 ?_
   refine Rg.stepS ?_
   intro K hK
   go_simp
   have J2:=Lib.hid (J2.out.alloc (.cells #[.int .i64 Zv] 3))
   have J7:=Lib.hid (J7.out.alloc (.cells #[.int .i64 Zv] 3))
   have JB:=Lib.hid (JB.out.alloc JB.out.size (.cells #[.int .i64 Zv] 3))
   have JW:=Lib.hid (JW.out.alloc JW.out.size (.cells #[.int .i64 Zv] 3))
   have JV:=Lib.hid (Nd.ownsRow_below JV.out ((Below.refl V0.heap.size V0).alloc (Nat.le_refl _) (.cells #[.int .i64 Zv] 3)))
   have JK:=Lib.hid (JK.out.trans (KeepsOthers.alloc V0 (.cells #[.int .i64 Zv] 3)))
   have JX:=Lib.hid (JX.out.alloc (Nat.le_trans HWS.out JX.out.size) (.cells #[.int .i64 Zv] 3))
   have JS:=Lib.hid (rd_cell1 V0 (.int .i64 Zv) 3)
   have JZ:=Lib.hid (show W0.heap.size≤(V0.alloc (.cells #[.int .i64 Zv] 3)).heap.size by have:=JX.out.size;have:=HWS.out;omega)
   generalize(V0.alloc (.cells #[.int .i64 Zv] 3))=V1 at*
   obtain⟨g9,hg9⟩:∃g,V0.heap.size=g:=⟨_,rfl⟩
   rw [hg9]at JS ⊢
   clear hg9 HS_
   have HS_: V1.cell? ⟨g7,3,none⟩=some (.slice A pre.length c3):=by rw [J7.out.cell];rfl
   refine hK.out _ _ HS_ ?_
   clear hK K
   try simp only [Rg.lp]
   refine Rg.stp_o 5 ?_
   refine Rg.stepF ?_ ?_
   · kernel_rfl
   intro K hK
   rw [if_pos (by rfl)]
   refine wp_append_rd _ (.tmp 65) (.tmp 68) 70 rfl elemInts rfl JV.out rfl (fun h=>by cases h) JS.out (by simp [Value.oneCell']) (by unfold maxLen;omega) (by omega) JZ.out ?_
   intro A5 c5 w5 hA5 hown5 hgr5
   have J7:=Lib.hid (J7.out.grown hgr5 (fun e=>by have:=(JV.out.lt _ e.symm).1;have:=HG70.out;omega))
   have J2:=Lib.hid (J2.out.grown hgr5 (fun e=>by have:=(JV.out.lt _ e.symm).1;have:=HG70.out;omega))
   have JB:=Lib.hid (JB.out.grown hgr5 (by have:=JB.out.size;omega) (fun g e=>by have:=(JV.out.lt g e).1;have:=HWB.out;omega))
   have JW:=Lib.hid (JW.out.grown hgr5 (by have:=JW.out.size;omega) (fun g e=>by have:=(JV.out.lt g e).1;have:=HWB.out;omega))
   have JX:=Lib.hid (JX.out.grown hgr5 (by have:=JX.out.size;have:=HWS.out;omega) (fun g e=>(JV.out.lt g e).1))
   have JK:=Lib.hid (JK.out.trans (KeepsOthers.of_grownBy hgr5 (fun j o e ho=>by obtain⟨cur,t,h,_⟩:=own_is JV.out (t':=0) (by decide) j e;rw [h]at ho;cases ho;rfl)))
   have JV:=Lib.hid hown5
   clear hown5 hgr5 HS_ JS JZ
   have v5:=J7.out.cell 3
   have f5:=J7.out.thaw 3
   simp only [List.getElem?_toArray,List.getElem?_cons_zero,List.getElem?_cons_succ]at v5
   have n5:g7<w5.heap.size:=J7.out.lt
   refine hK.out _ _ ?_
   clear hK K
   try simp only [Rg.lp]
   refine Rg.tp 6 ⟨some 70,.fieldAddr 72 (.tmp 7) 3,_,_,_,none⟩ (v:=?_) rfl ?_ ?_
   rotate_left 1
   · (intro w;go_simp;(try with_reducible rfl))
   try simp only [Rg.lp]
   refine Rg.stp_o 7 ?_
   refine Rg.stepF ?_ ?_
   · kernel_rfl
   intro K hK
   go_simp
   refine hK.out _ _ ?_
   clear hK K
   try simp only [Rg.lp]
   refine Rg.doneR (by kernel_rfl) ?_ _
   exact⟨JK.out.trans (KeepsOthers.setCell _ _ _),Fc.but_set (by rw [←HSZ.out];exact JX.out) 3 _,A5,c5,by rw [List.length_append];exact J7.out.set 3 _,by rw [List.length_append,List.map_append,List.map_singleton,show i64N (valB bs (8+8*(⟨i,hi⟩:Fin N).val) 8)=Zv from HZV.out];exact dec_own JV.out HG70.out.1,J2.out.other (p:=⟨g7,3,none⟩) (by show g2≠g7;have:=HGB.out;omega) _,JB.out.setCell (p:=⟨g7,3,none⟩) (by show w.heap.size≤g7;have:=HGB.out;have:=HG.out;omega) _,JW.out.setCell (p:=⟨g7,3,none⟩) HGB.out.2.2 _,by rw [World.size_setCell];have:=JX.out.size;have:=HWS.out;omega⟩
  case done=>
   intro D xs W hD hxs hI hKD
   obtain⟨AV,cv,J7,JV,J2,JB,JW,JS⟩:=hI
   subst hxs
   have hln:(List.finRange N).length=N:=by simp
   have hmp:(List.finRange N).map (fun x:Fin N=>i64N (valB bs (8+8*x.val) 8))=decZ bs N:=by
    refine List.ext_getElem (by simp [decZ]) fun i h1 h2=>?_
    simp [decZ]
   rw [hln]at J7 JV
   rw [hmp]at JV
   clear hln hmp
   have H7:=Lib.hid J7
   have HV:=Lib.hid JV
   have H2:=Lib.hid J2
   have HB:=Lib.hid JB
   have HD:=Lib.hid (show W0.heap.size≤D from hD)
   have HK:=Lib.hid hKD
   have HDL:=Lib.hid (show D<W.heap.size from(Array.getElem?_eq_some_iff.1 hKD).1)
   have HG7:=Lib.hid (show g7<W0.heap.size by have:=HSZ.out;have:=HGB.out;omega)
   have HCE:=Lib.hid (show decE bs=wrong (y1:Int) (y2:Int) (FR:Int) N from by rw [HDE.out,HQ1.out,HQ2.out,HFE.out])
   clear J7 JV J2 JB JW JS hKD hD HDE
   have hn24:N≤24:=HN24.out
   have iC:(Tryz.prog.info? 72).map (·.size)=some (#[.int .i64 y1,.int .i64 y2,.int .i64 (FR:Nat),.slice AV N cv]:Array Value).size:=by kernel_rfl
   have CW:=Lib.hid (fun v=>right_any (y1:Int) (y2:Int) (FR:Int) AV N cv v (by omega))
   obtain⟨Ev,hEv⟩:∃E,wrong (y1:Int) (y2:Int) (FR:Int) N=E:=⟨_,rfl⟩
   rw [hEv]at HCE CW
   clear hEv
   unfold msgV at CW
   go_wp2_with(refine wpList_whole rfl 72 _ rfl g7 rfl H7.out _ Tryz.underlying72 rfl iC ?_)
   refine(CW.out _).mono ?_
   rintro e w9 ⟨rfl,hb⟩
   have H2:=Lib.hid (H2.out.below hb H2.out.lt)
   have H7:=Lib.hid (H7.out.below hb H7.out.lt)
   have HV:=Lib.hid (Nd.ownsRow_below HV.out hb)
   have HB:=Lib.hid (onward HB.out (Nat.le_refl _) hb)
   have HK:=Lib.hid ((hb.block D HDL.out).trans HK.out)
   clear hb CW
   by_cases hE:Ev=0
   ·
    subst hE
    go_wp2_with(first|(refine wpList_whole rfl 72 _ rfl g7 rfl H7.out _ Tryz.underlying72 rfl iC ?_)|(refine wpList_store_row rfl 72 _ _ rfl g2 #[.int .i64 y1,.int .i64 y2,.int .i64 (FR:Nat),.slice AV N cv] rfl rfl 72 _ H2.out iC rfl (by simp [Value.oneCell']) ?_))
    refine Fc.out_one ((setRow_other _ g2 D _ (by have:=HD.out;have:=HG7.out;have:=HGB.out;omega)).trans HK.out) ?_
    refine ret_row2 (x:=.int .i64 0) rfl rfl rfl ((H2.out.setRow _).grown (grownBy_putObj' _ D _) (by intro e;cases e;have:=HD.out;have:=HG7.out;have:=HGB.out;omega)) ⟨by rw [Tryz.underlying72],iC⟩ rfl ?_
    unfold DecAs
    rw [if_pos HCE.out,HDN.out]
    exact⟨AV,cv,by rw [HQ1.out,HQ2.out,HFE.out];rfl,own_put (own_weaken (Nd.own_setRow HV.out (show g2<W0.heap.size by have:=HG7.out;have:=HGB.out;omega) _) HWB.out) (by rw [setRow_other _ g2 D _ (by have:=HD.out;have:=HG7.out;have:=HGB.out;omega)];exact HK.out),Below.grown (below_setRow HB.out HG.out _) (grownBy_putObj' _ D _) (by rw [size_setRow];exact HB.out.size) (fun k e=>by cases e;have:=HD.out;have:=HWB.out;omega)⟩
   ·
    have hE':(Ev !=0)=true:=bne_iff_ne.2 hE
    have HE2:=Lib.hid hE
    clear hE
    go_wp2_with(refine wpList_store_row rfl 72 _ _ rfl g2 #[.int .i64 0,.int .i64 0,.int .i64 0,.slice none 0 0] rfl rfl 72 _ H2.out iZ rfl oZ ?_)
    refine Fc.out_one ((setRow_other _ g2 D _ (by have:=HD.out;have:=HG7.out;have:=HGB.out;omega)).trans HK.out) ?_
    refine ret_row2 (x:=.int .i64 Ev) rfl rfl rfl ((H2.out.setRow #[.int .i64 0,.int .i64 0,.int .i64 0,.slice none 0 0]).grown (grownBy_putObj' _ D _) (by intro e;cases e;have:=HD.out;have:=HG7.out;have:=HGB.out;omega)) ⟨by rw [Tryz.underlying72],iZ⟩ rfl ?_
    unfold DecAs
    rw [if_neg (by rw [HCE.out];exact HE2.out)]
    exact⟨by rw [HCE.out];rfl,Below.grown (below_setRow HB.out HG.out _) (grownBy_putObj' _ D _) (by rw [size_setRow];exact HB.out.size) (fun k e=>by cases e;have:=HD.out;have:=HWB.out;omega)⟩
end Ms
end Go.Proofs.YtljpoibnkkcjdaaGreatDoor
