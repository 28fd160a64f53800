import Derived.Test.YtljpoibnkkcjdaaGreatDoorPc15
set_option linter.unusedVariables false
set_option linter.unusedSimpArgs false
namespace Go.Proofs.YtljpoibnkkcjdaaGreatDoor
namespace Cf
open Go.RowKit Mem Rws Nd Cl
def WfF (f:Nat→Value):Prop:=∀i z,i<73→f i=.int .i64 z→Wf z
theorem wf_of {z:Int} (h: -9223372036854775808≤z∧z<9223372036854775808):Wf z:=by
 unfold Wf
 simp [Lit.wf,IntKind.min,IntKind.max,IntKind.signed,IntKind.bits]
 omega
theorem wf_in {z:Int} (h:BigW.In64 z):Wf z:=wf_of (by unfold BigW.In64 at h;omega)
theorem int_inj {a b:Int} (h:Value.int .i64 a=.int .i64 b):a=b:=by injection h
theorem wf_sense {f:Nat→Value} (h:WfF f) {fr:Int} (hf:Wf fr) (k:Nat) {r0 r1 r2:Int} (h0:Wf r0) (h1:Wf r1) (h2:Wf r2):WfF (senseF f fr k r0 r1 r2):=fun i z hi e=>by
 unfold senseF over at e
 split at e
 ·
  unfold rd3 at e
  split at e
  · rw [←int_inj e];exact h0
  ·
   split at e
   · rw [←int_inj e];exact h1
   · rw [←int_inj e];exact h2
 ·
  split at e
  · rw [←int_inj e];exact wf_zero
  ·
   split at e
   · rw [←int_inj e];exact wf_zero
   ·
    dsimp only at e
    split at e
    · rw [←int_inj e];exact hf
    · exact h i z hi e
theorem wf_getD {zs:List Int} (h:∀z∈zs,Wf z) (k:Nat):Wf (zs.getD k 0):=by
 rw [List.getD_eq_getElem?_getD]
 cases e:zs[k]? with
 |none=>exact wf_zero
 |some z=>exact h z (List.mem_of_getElem? e)
theorem wf_relay {f:Nat→Value} (h:WfF f) {rv:Nat→Option (List Int)} (hr:∀i zs,rv i=some zs→∀z∈zs,Wf z) (k:Nat):WfF (relayK f rv k):=fun i z hi e=>by
 unfold relayK at e
 split at e
 ·
  cases e1:rv ((i-39)/3)with
  |none=>rw [e1]at e;exact h i z hi e
  |some zs=>
   rw [e1]at e
   rw [←int_inj e]
   exact wf_getD (hr _ _ e1) _
 · exact h i z hi e
theorem wf_pass {f:Nat→Value} (h:WfF f) {pv:Nat→Option Int} (hr:∀i z,pv i=some z→Wf z) (k:Nat):WfF (passK f pv k):=fun i z hi e=>by
 unfold passK at e
 split at e
 ·
  cases e1:pv (i-51)with
  |none=>rw [e1]at e;exact h i z hi e
  |some y=>
   rw [e1]at e
   rw [←int_inj e]
   exact hr _ _ e1
 · exact h i z hi e
theorem digest_wf (f:Nat→Value):Wf (digestZ f):=wf_of (by
 unfold digestZ SumLaw.more
 have:=SumLaw.over_lt (Wr.vals (packZ f)) (4294967295-((0:Int)%4294967296).toNat) (by omega) (Wr.vals_small _)
 omega)
theorem upd_missed {s:BigW.St} (h:Wf s.missed) (dt q r gate z:Int):Wf (BigW.fstep s dt q r gate z).1.missed:=by
 unfold BigW.fstep BigW.update
 dsimp only
 split
 · exact wf_of (by show _≤IntKind.i64.wrap _∧IntKind.i64.wrap _<_;rw [IntKind.wrap_i64];omega)
 · exact wf_zero
theorem stCell_wf {s:BigW.St} (h:BigW.StIn s) (hm:Wf s.missed) (j:Nat) {z:Int} (e:stCell s j=.int .i64 z):Wf z:=by
 obtain⟨h1,h2,h3,h4,h5⟩:=h
 unfold stCell at e
 rcases Nat.lt_or_ge j 7 with hj|hj
 ·
  obtain rfl|rfl|rfl|rfl|rfl|rfl|rfl:j=0∨j=1∨j=2∨j=3∨j=4∨j=5∨j=6:=by omega
  · rw [←int_inj e];exact wf_in h1
  · rw [←int_inj e];exact wf_in h2
  · rw [←int_inj e];exact wf_in h3
  · rw [←int_inj e];exact wf_in h4
  · rw [←int_inj e];exact wf_in h5
  · cases e
  · rw [←int_inj e];exact hm
 ·
  rw [show(BigW.stC s).getD j (.int .i64 0)=.int .i64 0 from by unfold Array.getD;exact dif_neg (by show ¬j<7;omega)]at e
  rw [←int_inj e];exact wf_zero
theorem wf_decG {f:Nat→Value} (hf:∀i,i<73→okT (nodeT i) (f i)) (h:WfF f) {z:Nat→Int} (hz:∀j,j<12→BigW.In64 (z j)):WfF (decG f z allP 3 3):=fun i y hi e=>by
 unfold decG at e
 split at e
 ·
  rename_i h6
  have ha:(i-6)/7<3:=by omega
  refine stCell_wf (s:=newSt f z ((i-6)/7)) (BigW.step_in (st_in hf h _ ha) _ _ _ _ _) (upd_missed ?_ _ _ _ _ _) _ e
  exact h (6+((i-6)/7*7+6)) _ (by omega) (cell_int hf _ (by omega) (by rw [nodeT_ax _ (by omega) (by omega)];simp;try omega))
 ·
  split at e
  ·
   rename_i h7
   rw [←int_inj e];exact wf_in (hz _ (by omega))
  ·
   split at e
   ·
    rename_i h8
    rw [←int_inj e];exact wf_in (used_in hz _ (by omega))
   · exact h i y hi e
theorem wf_dec {f:Nat→Value} (hf:∀i,i<73→okT (nodeT i) (f i)) (h:WfF f) {z:Nat→Int} (hz:∀j,j<12→BigW.In64 (z j)) (k:Nat):WfF (decF k z f):=fun i y hi e=>by
 unfold decF at e
 split at e
 · rw [←int_inj e];exact digest_wf _
 · exact wf_decG hf h hz i y hi e
def Bnd (s:RS):Prop:=∀i,i<4→(0≤s.m i∧s.m i≤2)∧(0≤s.j i∧s.j i≤2)
theorem bnd_good {s:RS} (h:okTo s.f s.m s.j 4=true):Bnd s:=fun i hi=>by
 have hg:GoodAt s i:=okTo_at h i hi
 cases e:s.f i with
 |true=>have:=good_in hg e;omega
 |false=>have:=good_out hg e;omega
theorem upd_cases {α:Type} (g:Nat→α) (i:Nat) (v:α) (k:Nat):upd g i v k=v∨upd g i v k=g k:=by
 by_cases h:k=i
 · exact .inl (by rw [h,upd_same])
 · exact .inr (upd_other g v h)
theorem bnd_one {s:RS} (h:Bnd s) (i:Nat) (hi:i<4) (b:Bool):Bnd (Nd.one s i b).1:=fun k hk=>by
 have h1:=h k hk
 have h2:=h i hi
 unfold Nd.one
 (repeat' split)<;>dsimp only
 · rcases upd_cases s.m i 0 k with e|e<;>rw [e]<;>omega
 · rcases upd_cases s.m i 0 k with e|e<;>rw [e]<;>omega
 · rcases upd_cases s.m i (min (s.m i+1) 2) k with e|e<;>rw [e]<;>omega
 · rcases upd_cases s.j i 0 k with e|e<;>rw [e]<;>omega
 · rcases upd_cases s.j i 0 k with e|e<;>rw [e]<;>omega
 · rcases upd_cases s.j i (s.j i+1) k with e|e<;>rw [e]<;>omega
theorem bnd_many {s:RS} (h:Bnd s) (ag:Nat→Bool):∀n,n≤4→Bnd (many s ag n).1
 |0,_=>h
 |n+1,hn=>by
  unfold many
  exact bnd_one (bnd_many h ag n (by omega)) n (by omega) _
theorem bnd_step {s:RS} {st:Bool} {bs:List Bool} (h:(stepR s st bs).2.2=0):Bnd (stepR s st bs).1:=by
 unfold stepR at h ⊢
 by_cases h1:bs.length≠4
 · rw [if_pos h1]at h;cases h
 rw [if_neg h1]at h ⊢
 by_cases h2:okTo s.f s.m s.j 4=false
 · rw [if_pos h2]at h;cases h
 rw [if_neg h2]at h ⊢
 have hb:=bnd_good (by simpa using h2)
 by_cases h3:st=false
 · rw [if_pos h3];exact hb
 · rw [if_neg h3];exact bnd_many hb _ 4 (Nat.le_refl _)
theorem wf_rollW {f:Nat→Value} (h:WfF f) {r:RS} (hr:∀i,i<4→Wf (r.m i)∧Wf (r.j i)):WfF (rollW f r):=fun i z hi e=>by
 unfold rollW at e
 split at e
 ·
  unfold rollF at e
  split at e
  · cases e
  ·
   split at e
   · rw [←int_inj e];exact(hr _ (by omega)).1
   · rw [←int_inj e];exact(hr _ (by omega)).2
 · exact h i z hi e
theorem rv_cases (L:Nat→Int) (I:Nat→Bool):∀k,k≤4→Vt.rv L I k=0∨∃i,i<4∧I i=true∧Vt.rv L I k=L i
 |0,_=>.inl rfl
 |k+1,hk=>by
  unfold Vt.rv
  split
  ·
   rename_i h
   exact .inr ⟨k,by omega,h.1,rfl⟩
  · exact rv_cases L I k (by omega)
theorem wf_vote {f:Nat→Value} (h:WfF f) {v:Int} (hv:Wf v) (st:Bool):WfF (voteF f v st):=fun i z hi e=>by
 unfold voteF at e
 split at e
 · rw [←int_inj e];exact hv
 ·
  split at e
  · cases e
  · exact h i z hi e
theorem wf_judge {f:Nat→Value} (h:WfF f) {L:Nat→Int} (hL:∀i,i<4→Wf (L i)):WfF (judgeF L f):=by
 have hv:Wf (Vt.val L (inB f)):=by
  rcases rv_cases L (inB f) 4 (Nat.le_refl _)with e|⟨i,hi,_,e⟩
  · unfold Vt.val;rw [e];exact wf_zero
  · unfold Vt.val;rw [e];exact hL i hi
 unfold judgeF
 split
 ·
  rename_i h0
  refine wf_rollW (wf_vote h hv _) fun i hi=>?_
  have hb:Bnd (judgeR L f).1:=bnd_step h0
  have:=hb i hi
  exact⟨wf_of (by omega),wf_of (by omega)⟩
 · exact wf_vote h hv _
theorem zAt_wf {zs:List Int} (h:∀z∈zs,Wf z) (i:Nat):Wf (zAt zs i):=wf_getD h i
theorem octAt_wf (v:Int) (i:Nat):Wf (octAt v i):=wf_of (by unfold octAt;omega)
theorem wf_take {f:Nat→Value} (h:WfF f) {zs:List Int} (hz:∀z∈zs,Wf z):WfF (takeU zs f):=by
 unfold takeU
 split
 ·
  unfold unpackF
  refine wf_rollW (fun i z hi e=>?_) fun i hi=>⟨octAt_wf _ _,octAt_wf _ _⟩
  unfold axU at e
  split at e
  ·
   unfold axV at e
   split at e
   · cases e
   · rw [←int_inj e];exact zAt_wf hz _
  · exact h i z hi e
 · exact h
theorem pair_from {o:Nat→Option Ms.Msg} {zs:List Int} (h:pairOf o=some zs):∃i m,o i=some m∧m.zs=zs:=by
 unfold pairOf at h
 obtain⟨p,_,hp⟩:=List.exists_of_findSome?_eq_some h
 unfold pairAt at hp
 cases e:o p.1 with
 |none=>rw [e]at hp;cases hp
 |some a=>
  rw [e]at hp
  cases e2:o p.2 with
  |none=>rw [e2]at hp;cases hp
  |some b=>
   rw [e2]at hp
   dsimp only at hp
   split at hp
   ·
    injection hp with hp
    exact⟨_,a,e,hp⟩
   · cases hp
theorem wf_close {f:Nat→Value} (h:WfF f) {o:Nat→Option Ms.Msg} (ho:∀i m,o i=some m→∀z∈m.zs,Wf z):WfF (closeF o f):=by
 unfold closeF
 split
 ·
  unfold adoptF
  cases e:pairOf o with
  |none=>exact h
  |some zs=>
   obtain⟨i,m,hm,rfl⟩:=pair_from e
   exact wf_take h (ho i m hm)
 · exact h
def Good (bad fr:Int) (F:Nat→Nat→Value):Prop:=∀i:Nat,i<4→(i:Int)≠bad→F i 0=.int .i64 (i:Int)∧F i 1=.int .i64 fr∧(∀j,j<73→okT (nodeT j) (F i j))∧WfF (F i)
theorem Good.new {bad fr:Int} {G F:Nat→Nat→Value} (h:Good bad fr G):Good bad fr (newK bad G F 4):=fun i hi hb=>by
 rw [newK_good hi hb];exact h i hi hb
theorem phX_wf (bad ph:Int) (ls:List Lie) (mk mf mn:Nat→Int) (mz:Nat→List Int) (n i:Nat):∀m∈phX bad ph ls mk mf mn mz n i,∀z∈m.zs,Wf z:=fun m hm z hz=>wf_of (phX_in bad ph ls mk mf mn mz n i m hm z hz)
theorem first_wf {id fr kind:Int} {many:Nat} {fm:Int} {ms:List Ms.Msg} {m:Ms.Msg} (hw:∀m∈ms,∀z∈m.zs,Wf z) (h:Ms.firstOf id fr kind many fm ms=some m):∀z∈m.zs,Wf z:=hw m (List.mem_of_find?_eq_some h)
section
variable {c : CluS} {x : InS}
theorem good1 (hs:Sane c) (hrd:∀i,i<12→Wf (x.rd i)):Good x.bad c.fr (F1 c x):=Good.new fun i hi hb=>
 ⟨(sense0 _ _ _ hi _ _ _).trans (hs.id i hi),sense1 _ _ _ hi _ _ _,ok_sense (hs.ok i hi) _ _ hi _ _ _,wf_sense (hs.wf i hi) (wf_of (by have:=hs.fr;omega)) _ (hrd _ (by omega)) (hrd _ (by omega)) (hrd _ (by omega))⟩
theorem good2 (h:Good x.bad c.fr (F1 c x)):Good x.bad c.fr (F2 c x):=Good.new fun i hi hb=>by
 obtain⟨h1,h2,h3,h4⟩:=h i hi hb
 refine⟨(relayK_low _ _ _ _ (by omega)).trans h1,(relayK_low _ _ _ _ (by omega)).trans h2,ok_relay h3 _ _ (Nat.le_refl _),wf_relay h4 (fun j zs e z hz=>?_) 4⟩
 unfold relayV at e
 obtain⟨m,hm,rfl⟩:=Option.map_eq_some_iff.1 e
 exact first_wf (phX_wf _ _ _ _ _ _ _ _ _) hm z hz
theorem agreed_in (h:Good x.bad c.fr (F2 c x)) {i:Nat} (hi:i<4) (hb:(i:Int)≠x.bad):∀j,j<12→BigW.In64 (A3 c x i j):=by
 obtain⟨h1,h2,h3,h4⟩:=h i hi hb
 exact wf_agreed h3 h4 (phX_wf _ _ _ _ _ _ _ _ _) _ _
theorem dec_low (k:Nat) (z:Nat→Int) (f:Nat→Value) (i:Nat) (hi:i<6):decF k z f i=f i:=by
 unfold decF
 rw [if_neg (by omega),decG_low _ _ _ _ _ _ (by omega) (by omega) (by omega)]
theorem good3 (h:Good x.bad c.fr (F2 c x)):Good x.bad c.fr (F3 c x):=Good.new fun i hi hb=>by
 obtain⟨h1,h2,h3,h4⟩:=h i hi hb
 exact⟨(dec_low _ _ _ _ (by omega)).trans h1,(dec_low _ _ _ _ (by omega)).trans h2,ok_decF h3 _ hi _,wf_dec h3 h4 (agreed_in h hi hb) _⟩
theorem good4 (h:Good x.bad c.fr (F3 c x)):Good x.bad c.fr (F4 c x):=Good.new fun i hi hb=>by
 obtain⟨h1,h2,h3,h4⟩:=h i hi hb
 refine⟨(passK_low _ _ _ _ (by omega)).trans h1,(passK_low _ _ _ _ (by omega)).trans h2,ok_pass h3 _ _ (Nat.le_refl _),wf_pass h4 (fun j z e=>?_) 4⟩
 unfold passV at e
 obtain⟨m,hm,rfl⟩:=Option.map_eq_some_iff.1 e
 exact wf_getD (first_wf (phX_wf _ _ _ _ _ _ _ _ _) hm) 0
theorem judge_low (L:Nat→Int) (f:Nat→Value) (i:Nat) (hi:i<27):judgeF L f i=f i:=by
 unfold judgeF
 split
 ·
  unfold rollW voteF
  rw [if_neg (by omega),if_neg (by omega),if_neg (by omega)]
 ·
  unfold voteF
  rw [if_neg (by omega),if_neg (by omega)]
theorem digests_wf (h:Good x.bad c.fr (F4 c x)) {i:Nat} (hi:i<4) (hb:(i:Int)≠x.bad):∀s,s<4→Wf (L5 c x i s):=fun s hs=>by
 obtain⟨h1,h2,h3,h4⟩:=h i hi hb
 unfold L5 digestsZ
 refine wf_taken ?_ fun j m hm=>first_wf (phX_wf _ _ _ _ _ _ _ _ _) hm
 exact h4 (51+s) _ (by omega) (cell_int h3 (51+s) (by omega) (by unfold nodeT;simp;omega))
theorem good5 (h:Good x.bad c.fr (F4 c x)):Good x.bad c.fr (F5 c x):=Good.new fun i hi hb=>by
 obtain⟨h1,h2,h3,h4⟩:=h i hi hb
 exact⟨(judge_low _ _ _ (by omega)).trans h1,(judge_low _ _ _ (by omega)).trans h2,ok_judge h3 _,wf_judge h4 (digests_wf h hi hb)⟩
theorem good6 (h:Good x.bad c.fr (F5 c x)):Good x.bad c.fr (F6 c x):=Good.new fun i hi hb=>by
 obtain⟨h1,h2,h3,h4⟩:=h i hi hb
 exact⟨(close_keep _ _ _ (by omega)).trans h1,(close_keep _ _ _ (by omega)).trans h2,ok_close h3 _,wf_close h4 fun j m hm=>first_wf (phX_wf _ _ _ _ _ _ _ _ _) hm⟩
theorem stays (b:Nat) (hb:(b:Int)=x.bad):F6 c x b=c.F b:=by
 unfold F6 F5 F4 F3 F2 F1
 rw [newK_bad hb,newK_bad hb,newK_bad hb,newK_bad hb,newK_bad hb,newK_bad hb]
theorem sane_next (hs:Sane c) (hrd:∀i,i<12→Wf (x.rd i)) (hfr:c.fr+1<1073741824):Sane (next c x):=by
 have hg:=good6 (good5 (good4 (good3 (good2 (good1 hs hrd)))))
 refine⟨fun i hi=>?_,fun i hi=>?_,fun i hi=>?_,⟨by have:=hs.fr;show 0≤c.fr+1;omega,hfr⟩,fun i hi=>?_⟩
 ·
  by_cases hb:(i:Int)=x.bad
  · show F6 c x i 0=_;rw [stays i hb];exact hs.id i hi
  · exact(hg i hi hb).1
 ·
  by_cases hb:(i:Int)=x.bad
  · show ∀j,j<73→okT (nodeT j) (F6 c x i j);rw [stays i hb];exact hs.ok i hi
  · exact(hg i hi hb).2.2.1
 ·
  by_cases hb:(i:Int)=x.bad
  · show WfF (F6 c x i);rw [stays i hb];exact hs.wf i hi
  · exact(hg i hi hb).2.2.2
 ·
  show(W5 c x i).length≤_
  unfold W5
  by_cases hb:(i:Int)=x.bad
  · rw [newK_bad hb];exact hs.v i hi
  · rw [newK_good hi hb];show(agreeL _ _).length≤_;unfold agreeL;simp
end
end Cf
namespace Cf
open Go.RowKit Mem Rws Nd Cl
def m3 (a b c:Int):Int:=if a=b∨a=c then a else if b=c then b else 0
theorem maj3 (a b c:Int):MajLaw.maj [a,b,c] 0=m3 a b c:=by
 unfold m3
 by_cases h1:a=b∨a=c
 ·
  rw [if_pos h1]
  refine MajLaw.maj_found ?_
  unfold MajLaw.cnt
  simp only [List.count_cons,List.count_nil,List.length_cons,List.length_nil,beq_iff_eq]
  rcases h1 with h|h<;>subst h<;>simp<;>(repeat' split)<;>omega
 ·
  rw [if_neg h1]
  by_cases h2:b=c
  ·
   rw [if_pos h2]
   refine MajLaw.maj_found ?_
   subst h2
   unfold MajLaw.cnt
   simp only [List.count_cons,List.count_nil,List.length_cons,List.length_nil,beq_iff_eq]
   simp
   (repeat' split)<;>omega
  ·
   rw [if_neg h2]
   have h3:a≠b∧a≠c:=⟨fun e=>h1 (.inl e),fun e=>h1 (.inr e)⟩
   refine MajLaw.maj_none fun i hi=>?_
   simp only [List.length_cons,List.length_nil]at hi
   unfold MajLaw.cnt
   obtain rfl|rfl|rfl:i=0∨i=1∨i=2:=by omega
   all_goals
    simp [List.count_cons,h3.1,h3.2,h2,Ne.symm h3.1,Ne.symm h3.2,Ne.symm h2]
theorem m3_swap (a b c:Int):m3 a b c=m3 b a c∧m3 a b c=m3 a c b:=by unfold m3;constructor<;>(repeat' split)<;>omega
def oth (b k:Nat):Nat:=if k<b then k else k+1
def sum3 (b:Nat) (D:Nat→Int):Int:=m3 (D (oth b 0)) (D (oth b 1)) (D (oth b 2))
theorem taken_own {id:Nat} (hd:Int) (k:Nat) (o:Nat→Option Ms.Msg):takenZ id id hd k o=hd:=if_pos rfl
theorem taken_two {id ab:Nat} (h1:id<4) (h2:ab<4) (hne:ab≠id) (hd:Int) (k:Nat) (o:Nat→Option Ms.Msg):∃p q,p<4∧q<4∧p<q∧p≠id∧p≠ab∧q≠id∧q≠ab∧takenZ id ab hd k o=m3 hd (numAt k (o p)) (numAt k (o q)):=by
 unfold takenZ
 rw [if_neg hne]
 have h:∃p q,p<4∧q<4∧p<q∧p≠id∧p≠ab∧q≠id∧q≠ab∧toldL id ab k o 4=[numAt k (o p),numAt k (o q)]:=by
  rcases(show id=0∨id=1∨id=2∨id=3 by omega)with rfl|rfl|rfl|rfl<;>rcases(show ab=0∨ab=1∨ab=2∨ab=3 by omega)with rfl|rfl|rfl|rfl<;>
   first
    |exact absurd rfl hne
    |exact⟨0,1,by omega,by omega,by omega,by omega,by omega,by omega,by omega,rfl⟩
    |exact⟨0,2,by omega,by omega,by omega,by omega,by omega,by omega,by omega,rfl⟩
    |exact⟨0,3,by omega,by omega,by omega,by omega,by omega,by omega,by omega,rfl⟩
    |exact⟨1,2,by omega,by omega,by omega,by omega,by omega,by omega,by omega,rfl⟩
    |exact⟨1,3,by omega,by omega,by omega,by omega,by omega,by omega,by omega,rfl⟩
    |exact⟨2,3,by omega,by omega,by omega,by omega,by omega,by omega,by omega,rfl⟩
 obtain⟨p,q,g1,g2,g3,g4,g5,g6,g7,e⟩:=h
 exact⟨p,q,g1,g2,g3,g4,g5,g6,g7,by rw [e,maj3]⟩
theorem taken_good {bad:Int} {id ab k:Nat} {o:Nat→Option Ms.Msg} {v hd:Int} (h1:id<4) (h2:ab<4) (hi:(id:Int)≠bad) (hb:(ab:Int)≠bad) (hh:hd=v) (ho:∀p,p<4→p≠id→(p:Int)≠bad→numAt k (o p)=v):takenZ id ab hd k o=v:=by
 by_cases e:ab=id
 · subst e;rw [taken_own];exact hh
 ·
  obtain⟨p,q,g1,g2,g3,g4,g5,g6,g7,e2⟩:=taken_two h1 h2 e hd k o
  rw [e2,hh]
  unfold m3
  by_cases hp:(p:Int)=bad
  ·
   have:=ho q g2 g6 (by omega)
   rw [if_pos (.inr this.symm)]
  ·
   have:=ho p g1 g4 hp
   rw [if_pos (.inl this.symm)]
theorem taken_bad {id b k:Nat} {o:Nat→Option Ms.Msg} {D:Nat→Int} (h1:id<4) (h2:b<4) (hne:b≠id) (ho:∀p,p<4→p≠id→p≠b→numAt k (o p)=D p):takenZ id b (D id) k o=sum3 b D:=by
 obtain⟨p,q,g1,g2,g3,g4,g5,g6,g7,e2⟩:=taken_two h1 h2 hne (D id) k o
 rw [e2,ho p g1 g4 g5,ho q g2 g6 g7]
 unfold sum3
 obtain⟨x,hx,y,hy,z,hz,hset⟩:∃x,oth b 0=x∧∃y,oth b 1=y∧∃z,oth b 2=z∧x<y∧y<z∧z<4∧x≠b∧y≠b∧z≠b:=by
  refine⟨_,rfl,_,rfl,_,rfl,?_⟩
  unfold oth
  (repeat' split)<;>omega
 rw [hx,hy,hz]
 have hc:(id=x∧p=y∧q=z)∨(id=y∧p=x∧q=z)∨(id=z∧p=x∧q=y):=by omega
 rcases hc with⟨rfl,rfl,rfl⟩|⟨rfl,rfl,rfl⟩|⟨rfl,rfl,rfl⟩
 · rfl
 · exact(m3_swap _ _ _).1
 ·
  rw [(m3_swap (D id) (D p) (D q)).1]
  exact(m3_swap _ _ _).2
theorem heard_good {bad ph fr kind:Int} {ls:List Lie} {mz:Nat→List Int} {i j many:Nat} (hi:i<4) (hj:j<4) (hij:i≠j) (hb:(j:Int)≠bad) (hk:1≤kind∧kind≤5) (hfr:0≤fr∧fr<1073741824) (hl:(mz j).length=many) (hm:many≤24) (hz:∀z∈mz j,Wf z):
  Ms.firstOf (i:Int) fr kind many (j:Int) (phX bad ph ls (fun _=>kind) nod (fun _=>fr) mz 4 i)=some ⟨kind,(j:Int),fr,mz j⟩:=by
 have h1:=first_part bad ph ls (fun _=>kind) (fun _=>fr) mz i j hj (i:Int) fr kind many
 have h2:Ms.firstOf (i:Int) fr kind many (j:Int) (phX bad ph ls (fun _=>kind) nod (fun _=>fr) mz 4 i)=(Cl.part bad ph ls (fun _=>kind) (fun s=>(s:Int)) (fun _=>fr) mz i j).find? (Ms.fit (i:Int) fr kind many (j:Int)):=h1
 rw [h2]
 have hw:Ms.wrong kind (j:Int) fr (mz j).length=0:=by
  unfold Ms.wrong
  rw [if_neg (by omega),if_neg (by omega),if_neg (by omega)]
 unfold Cl.part postP
 dsimp only
 rw [if_neg hb,if_neg (fun h=>h hw),if_pos ⟨hi,by omega⟩,came_enc hw (fun z hz'=>by have:=Op.wf_i64 (hz z hz');omega)]
 show List.find? _ [_]=_
 have hf:Ms.fit (i:Int) fr kind many (j:Int) ⟨kind,(j:Int),fr,mz j⟩=true:=by
  unfold Ms.fit
  have hji:((j:Int)!=(i:Int))=true:=by simp;omega
  simp [hji,hl]
 rw [List.find?_cons_of_pos hf]
end Cf
namespace Cf
open Go.RowKit Mem Rws Nd Cl
structure Alike (c:CluS) (bad:Int):Prop where
 same:∀p q:Nat,p<4→q<4→(p:Int)≠bad→(q:Int)≠bad→∀j,2≤j→j<39→c.F p j=c.F q j
 inn:∀p q:Nat,p<4→q<4→(p:Int)≠bad→(q:Int)≠bad→inB (c.F p) q=true∧(rollOf (c.F p)).m q=0
 roll:∀p:Nat,p<4→(p:Int)≠bad→okTo (rollOf (c.F p)).f (rollOf (c.F p)).m (rollOf (c.F p)).j 4=true
section
variable {c : CluS} {x : InS}
theorem getD3 (a b d:Int) (k:Nat) (hk:k<3) (g:Nat→Int) (h0:g 0=a) (h1:g 1=b) (h2:g 2=d):[a,b,d].getD k 0=g k:=by
 obtain rfl|rfl|rfl:k=0∨k=1∨k=2:=by omega
 · exact h0.symm
 · exact h1.symm
 · exact h2.symm
theorem dir_own (hs:Sane c) {i:Nat} (hi:i<4) (hb:(i:Int)≠x.bad) (a:Nat) (ha:a<3):F1 c x i (39+(i*3+a))=.int .i64 (x.rd (i*3+a)):=by
 unfold F1
 rw [newK_good hi hb]
 unfold G1 senseF
 rw [over_in (by omega) (by omega),show 39+(i*3+a)-(39+i*3)=a by omega]
 unfold rd3
 obtain rfl|rfl|rfl:a=0∨a=1∨a=2:=by omega
 all_goals rfl
theorem hear1 (hs:Sane c) (hrd:∀i,i<12→Wf (x.rd i)) {i j:Nat} (hi:i<4) (hj:j<4) (hij:i≠j) (hb:(j:Int)≠x.bad):Ms.firstOf (i:Int) c.fr 1 3 (j:Int) (X1 c x i)=some ⟨1,(j:Int),c.fr,rds x j⟩:=
 heard_good hi hj hij hb (by omega) hs.fr rfl (by omega) (fun z hz=>by
  unfold rds at hz
  simp only [List.mem_cons,List.mem_nil_iff,or_false]at hz
  rcases hz with rfl|rfl|rfl
  · exact hrd _ (by omega)
  · exact hrd _ (by omega)
  · exact hrd _ (by omega))
theorem dir_good (hs:Sane c) (hrd:∀i,i<12→Wf (x.rd i)) {i j:Nat} (hi:i<4) (hj:j<4) (hbi:(i:Int)≠x.bad) (hb:(j:Int)≠x.bad) (a:Nat) (ha:a<3):G2 c x i (39+(j*3+a))=.int .i64 (x.rd (j*3+a)):=by
 unfold G2 relayK
 rw [if_pos (by omega),show(39+(j*3+a)-39)/3=j by omega,show(39+(j*3+a)-39)%3=a by omega]
 unfold relayV
 by_cases e:i=j
 ·
  subst e
  rw [first_self]
  exact dir_own hs hi hbi a ha
 ·
  rw [hear1 hs hrd hi hj e hb]
  show rz (rds x j) a=_
  unfold rz rds
  exact congrArg _ (getD3 _ _ _ a ha (fun k=>x.rd (j*3+k)) rfl rfl rfl)
theorem dvs_at (f:Nat→Value) (k:Nat) (hk:k<12):(dvs f).getD k 0=dirZ f k:=by
 unfold dvs dirZ
 rw [List.getD_eq_getElem?_getD,List.getElem?_map,List.getElem?_range hk]
 rfl
theorem iv_wf {f:Nat→Value} (ho:∀j,j<73→okT (nodeT j) (f j)) (hw:WfF f) (i:Nat) (hi:i<73):Wf (iv (f i)):=by
 cases e:nodeT i with
 |true=>exact hw i _ hi (cell_int ho i hi e)
 |false=>
  have h:=ho i hi
  rw [e]at h
  obtain⟨b,hb⟩:=h
  rw [hb];exact wf_zero
theorem F2_good {i:Nat} (hi:i<4) (hb:(i:Int)≠x.bad):F2 c x i=G2 c x i:=newK_good hi hb
theorem hear2 (hs:Sane c) (hg:Good x.bad c.fr (F2 c x)) {i j:Nat} (hi:i<4) (hj:j<4) (hij:i≠j) (hb:(j:Int)≠x.bad):Ms.firstOf (i:Int) c.fr 2 12 (j:Int) (X2 c x i)=some ⟨2,(j:Int),c.fr,dvs (G2 c x j)⟩:=
 heard_good (mz:=fun i=>dvs (G2 c x i)) hi hj hij hb (by omega) hs.fr (by unfold dvs;simp) (by omega) (fun z hz=>by
  unfold dvs at hz
  obtain⟨k,hk,rfl⟩:=List.mem_map.1 hz
  have hk:=List.mem_range.1 hk
  obtain⟨_,_,h3,h4⟩:=hg j hj hb
  rw [←F2_good (c:=c) hj hb]
  exact iv_wf h3 h4 _ (by omega))
noncomputable def AG (c:CluS) (x:InS) (j:Nat):Int:=if((j/3:Nat):Int)=x.bad then sum3 (j/3) (fun g=>dirZ (G2 c x g) j)else x.rd j
theorem agreed_all (hs:Sane c) (hrd:∀i,i<12→Wf (x.rd i)) (hg:Good x.bad c.fr (F2 c x)) {i:Nat} (hi:i<4) (hb:(i:Int)≠x.bad) (j:Nat) (hj:j<12):A3 c x i j=AG c x j:=by
 have hd:∀p:Nat,p<4→(p:Int)≠x.bad→∀s:Nat,s<4→(s:Int)≠x.bad→s=j/3→dirZ (G2 c x p) j=x.rd j:=fun p hp hpb s hs' hsb e=>by
  have h1:=dir_good hs hrd hp hs' hpb hsb (j%3) (by omega)
  rw [show s*3+j%3=j by omega]at h1
  unfold dirZ
  rw [h1];rfl
 unfold A3 agreedZ AG
 rw [F2_good hi hb]
 by_cases h:((j/3:Nat):Int)=x.bad
 ·
  rw [if_pos h]
  refine taken_bad (D:=fun g=>dirZ (G2 c x g) j) hi (by omega) (fun e=>hb (by rw [←e];exact h)) fun p hp hpi hpb=>?_
  rw [hear2 hs hg hi hp (fun e=>hpi e.symm) (by omega)]
  exact dvs_at _ _ hj
 ·
  rw [if_neg h]
  refine taken_good hi (by omega) hb h (hd i hi hb (j/3) (by omega) h rfl) fun p hp hpi hpb=>?_
  rw [hear2 hs hg hi hp (fun e=>hpi e.symm) hpb]
  show(dvs (G2 c x p)).getD j 0=_
  rw [dvs_at _ _ hj]
  exact hd p hp hpb (j/3) (by omega) h rfl
theorem relay_keeps (f:Nat→Value) (rv:Nat→Option (List Int)) (j:Nat) (h:j<39∨51≤j):relayK f rv 4 j=f j:=if_neg (by omega)
theorem sense_keeps (f:Nat→Value) (fr:Int) (k:Nat) (hk:k<4) (r0 r1 r2:Int) (j:Nat) (h1:j≠1) (h:j<39∨55≤j):senseF f fr k r0 r1 r2 j=f j:=by
 unfold senseF
 rw [over_out (by omega),over_out (by omega),over_out (by omega),if_neg h1]
theorem F2_keeps {i:Nat} (hi:i<4) (hb:(i:Int)≠x.bad) (j:Nat) (h1:j≠1) (h:j<39∨55≤j):F2 c x i j=c.F i j:=by
 rw [F2_good hi hb]
 unfold G2
 rw [relay_keeps _ _ _ (by omega)]
 unfold F1
 rw [newK_good hi hb]
 exact sense_keeps _ _ _ hi _ _ _ _ h1 h
theorem stOf_congr {f g:Nat→Value} (h:∀j,6≤j→j<27→f j=g j) (a:Nat) (ha:a<3):stOf f a=stOf g a:=by
 unfold stOf
 rw [h _ (by omega) (by omega),h _ (by omega) (by omega),h _ (by omega) (by omega),h _ (by omega) (by omega),h _ (by omega) (by omega),h (6+(a*7+5)) (by omega) (by omega),h (6+(a*7+6)) (by omega) (by omega)]
theorem used_congr {f g:Nat→Value} {z y:Nat→Int} (h:∀j,27≤j→j<31→f j=g j) (hz:∀j,j<12→z j=y j) (a:Nat) (ha:a<3):usedZ f z a=usedZ g y a:=by
 unfold usedZ
 rw [fuse_congrI (J:=inB g) (y:=fun s=>y (s*3+a)) (fun j hj=>by unfold inB;rw [h _ (by omega) (by omega)]) (fun j hj=>hz _ (by omega))]
theorem newSt_congr {f g:Nat→Value} {z y:Nat→Int} (h:∀j,2≤j→j<39→f j=g j) (hz:∀j,j<12→z j=y j) (a:Nat) (ha:a<3):newSt f z a=newSt g y a:=by
 unfold newSt
 rw [stOf_congr (fun j h1 h2=>h j (by omega) (by omega)) a ha,used_congr (fun j h1 h2=>h j (by omega) (by omega)) hz a ha,h 2 (by omega) (by omega),h 3 (by omega) (by omega),h 4 (by omega) (by omega),h 5 (by omega) (by omega)]
theorem decG_congr {f g:Nat→Value} {z y:Nat→Int} (h:∀j,2≤j→j<39→f j=g j) (hz:∀j,j<12→z j=y j) (j:Nat) (h1:(2≤j∧j<39)∨(55≤j∧j<70)):decG f z allP 3 3 j=decG g y allP 3 3 j:=by
 unfold decG
 by_cases a1:6≤j∧j<6+3*7
 · rw [if_pos a1,if_pos a1,newSt_congr h hz _ (by omega)]
 ·
  rw [if_neg a1,if_neg a1]
  by_cases a2:55≤j∧j<67∧allP (j-55)=true
  · rw [if_pos a2,if_pos a2,hz _ (by omega)]
  ·
   rw [if_neg a2,if_neg a2]
   by_cases a3:67≤j∧j<67+3
   · rw [if_pos a3,if_pos a3,used_congr (fun j h1 h2=>h j (by omega) (by omega)) hz _ (by omega)]
   ·
    rw [if_neg a3,if_neg a3]
    have:¬(55≤j∧j<67):=fun h=>a2 ⟨h.1,h.2,rfl⟩
    exact h j (by omega) (by omega)
theorem pack_congr {f g:Nat→Value} (h:∀j,6≤j→j<39→f j=g j):packZ f=packZ g:=by
 have ha:∀a,a<3→axZ f a=axZ g a:=fun a ha=>by
  unfold axZ
  rw [h _ (by omega) (by omega),h _ (by omega) (by omega),h _ (by omega) (by omega),h _ (by omega) (by omega),h _ (by omega) (by omega),h (6+(a*7+5)) (by omega) (by omega),h (6+(a*7+6)) (by omega) (by omega)]
 have hx:∀n,n≤3→axesZ f n=axesZ g n:=fun n=>by
  induction n with
  |zero=>intro _;rfl
  |succ n ih=>
   intro hn
   show axesZ f n++axZ f n=axesZ g n++axZ g n
   rw [ih (by omega),ha n (by omega)]
 have hi:∀n,n≤4→inZ f n=inZ g n:=fun n=>by
  induction n with
  |zero=>intro _;rfl
  |succ n ih=>
   intro hn
   unfold inZ
   rw [ih (by omega),h _ (by omega) (by omega)]
 have ho:∀o,o=31∨o=35→∀n,n≤4→octZ o f n=octZ o g n:=fun o ho n=>by
  induction n with
  |zero=>intro _;rfl
  |succ n ih=>
   intro hn
   unfold octZ
   rw [ih (by omega),h _ (by omega) (by omega)]
 unfold packZ
 rw [hx 3 (by omega),hi 4 (by omega),ho 31 (.inl rfl) 4 (by omega),ho 35 (.inr rfl) 4 (by omega)]
theorem F3_good {i:Nat} (hi:i<4) (hb:(i:Int)≠x.bad):F3 c x i=G3 c x i:=newK_good hi hb
theorem F2_same (ha:Alike c x.bad) {p q:Nat} (hp:p<4) (hq:q<4) (hpb:(p:Int)≠x.bad) (hqb:(q:Int)≠x.bad):∀j,2≤j→j<39→F2 c x p j=F2 c x q j:=fun j h1 h2=>by
 rw [F2_keeps hp hpb j (by omega) (by omega),F2_keeps hq hqb j (by omega) (by omega)]
 exact ha.same p q hp hq hpb hqb j h1 h2
theorem digest_same (hs:Sane c) (hrd:∀i,i<12→Wf (x.rd i)) (hg:Good x.bad c.fr (F2 c x)) (ha:Alike c x.bad) {p q:Nat} (hp:p<4) (hq:q<4) (hpb:(p:Int)≠x.bad) (hqb:(q:Int)≠x.bad):
  (∀j,(2≤j∧j<39)∨(55≤j∧j<70)→decG (F2 c x p) (A3 c x p) allP 3 3 j=decG (F2 c x q) (A3 c x q) allP 3 3 j)∧D3 c x p=D3 c x q:=by
 have h1:=fun j=>decG_congr (F2_same ha hp hq hpb hqb) (fun j hj=>(agreed_all hs hrd hg hp hpb j hj).trans (agreed_all hs hrd hg hq hqb j hj).symm) j
 refine⟨h1,?_⟩
 unfold D3 digestZ
 rw [pack_congr fun j a b=>h1 j (by omega)]
end
end Cf
namespace Cf
open Go.RowKit Mem Rws Nd Cl
section
variable {c : CluS} {x : InS}
theorem F4_good {i:Nat} (hi:i<4) (hb:(i:Int)≠x.bad):F4 c x i=G4 c x i:=newK_good hi hb
theorem F5_good {i:Nat} (hi:i<4) (hb:(i:Int)≠x.bad):F5 c x i=G5 c x i:=newK_good hi hb
theorem hear3 (hs:Sane c) {i j:Nat} (hi:i<4) (hj:j<4) (hij:i≠j) (hb:(j:Int)≠x.bad):Ms.firstOf (i:Int) c.fr 3 1 (j:Int) (X3 c x i)=some ⟨3,(j:Int),c.fr,[D3 c x j]⟩:=
 heard_good (mz:=fun i=>[D3 c x i]) hi hj hij hb (by omega) hs.fr rfl (by omega) (fun z hz=>by
  have hz2:z=D3 c x j:=by simpa using hz
  rw [hz2];exact digest_wf _)
theorem vote_good (hs:Sane c) {i s:Nat} (hi:i<4) (hs4:s<4) (hb:(i:Int)≠x.bad) (hsb:(s:Int)≠x.bad):heardZ (G4 c x i) s=D3 c x s:=by
 unfold heardZ G4 passK
 rw [if_pos (by omega),show 51+s-51=s by omega]
 unfold passV
 by_cases e:i=s
 ·
  subst e
  rw [first_self]
  show iv (F3 c x i (51+i))=_
  rw [F3_good hi hb]
  unfold G3 decF
  rw [if_pos (.inr rfl)]
  rfl
 ·
  rw [hear3 hs hi hs4 e hsb]
  rfl
theorem hvs_get (f:Nat→Value) (s:Nat) (h:s<4):(hvs f).getD s 0=heardZ f s:=by
 obtain rfl|rfl|rfl|rfl:s=0∨s=1∨s=2∨s=3:=by omega
 all_goals rfl
theorem hear4 (hs:Sane c) (hg:Good x.bad c.fr (F4 c x)) {i j:Nat} (hi:i<4) (hj:j<4) (hij:i≠j) (hb:(j:Int)≠x.bad):Ms.firstOf (i:Int) c.fr 2 4 (j:Int) (X4 c x i)=some ⟨2,(j:Int),c.fr,hvs (G4 c x j)⟩:=
 heard_good (mz:=fun i=>hvs (G4 c x i)) hi hj hij hb (by omega) hs.fr rfl (by omega) (fun z hz=>by
  obtain⟨_,_,h3,h4⟩:=hg j hj hb
  rw [F4_good hj hb]at h3 h4
  unfold hvs at hz
  simp only [List.mem_cons,List.mem_nil_iff,or_false]at hz
  rcases hz with rfl|rfl|rfl|rfl
  · exact iv_wf h3 h4 _ (by omega)
  · exact iv_wf h3 h4 _ (by omega)
  · exact iv_wf h3 h4 _ (by omega)
  · exact iv_wf h3 h4 _ (by omega))
noncomputable def LG (c:CluS) (x:InS) (s:Nat):Int:=if(s:Int)=x.bad then sum3 s (fun g=>heardZ (G4 c x g) s)else D3 c x s
theorem votes_all (hs:Sane c) (hg:Good x.bad c.fr (F4 c x)) {i:Nat} (hi:i<4) (hb:(i:Int)≠x.bad) (s:Nat) (hs4:s<4):L5 c x i s=LG c x s:=by
 unfold L5 digestsZ LG
 rw [F4_good hi hb]
 by_cases h:(s:Int)=x.bad
 ·
  rw [if_pos h]
  refine taken_bad (D:=fun g=>heardZ (G4 c x g) s) hi hs4 (fun e=>hb (by rw [←e];exact h)) fun p hp hpi hpb=>?_
  rw [hear4 hs hg hi hp (fun e=>hpi e.symm) (by omega)]
  exact hvs_get _ _ hs4
 ·
  rw [if_neg h]
  refine taken_good hi hs4 hb h (vote_good hs hi hs4 hb h) fun p hp hpi hpb=>?_
  rw [hear4 hs hg hi hp (fun e=>hpi e.symm) hpb]
  show(hvs (G4 c x p)).getD s 0=_
  rw [hvs_get _ _ hs4]
  exact vote_good hs hp hs4 hpb h
end
theorem cnt_tot (L:Nat→Int) (I:Nat→Bool) (v w:Int) (h:v≠w):∀k,Vt.cnt L I v k+Vt.cnt L I w k≤Vt.tot I k
 |0=>Nat.le_refl _
 |k+1=>by
  have ih:=cnt_tot L I v w h k
  unfold Vt.cnt Vt.tot
  by_cases hI:I k=true
  ·
   by_cases h1:L k=v
   · rw [if_pos ⟨hI,h1⟩,if_neg (fun e=>h (h1.symm.trans e.2)),if_pos hI];omega
   ·
    by_cases h2:L k=w
    · rw [if_neg (fun e=>h1 e.2),if_pos ⟨hI,h2⟩,if_pos hI];omega
    · rw [if_neg (fun e=>h1 e.2),if_neg (fun e=>h2 e.2),if_pos hI];omega
  · rw [if_neg (fun e=>hI e.1),if_neg (fun e=>hI e.1),if_neg hI];omega
theorem cnt_three {L:Nat→Int} {I:Nat→Bool} {bad d:Int} (h:∀s:Nat,s<4→(s:Int)≠bad→I s=true∧L s=d):3≤Vt.cnt L I d 4:=by
 have h1:∀s:Nat,s<4→(s:Int)≠bad→(I s=true∧L s=d):=h
 unfold Vt.cnt Vt.cnt Vt.cnt Vt.cnt Vt.cnt
 have k0:((0:Nat):Int)=bad∨(I 0=true∧L 0=d):=by by_cases e:((0:Nat):Int)=bad;exact .inl e;exact .inr (h1 0 (by omega) e)
 have k1:((1:Nat):Int)=bad∨(I 1=true∧L 1=d):=by by_cases e:((1:Nat):Int)=bad;exact .inl e;exact .inr (h1 1 (by omega) e)
 have k2:((2:Nat):Int)=bad∨(I 2=true∧L 2=d):=by by_cases e:((2:Nat):Int)=bad;exact .inl e;exact .inr (h1 2 (by omega) e)
 have k3:((3:Nat):Int)=bad∨(I 3=true∧L 3=d):=by by_cases e:((3:Nat):Int)=bad;exact .inl e;exact .inr (h1 3 (by omega) e)
 rcases k0 with k0|k0<;>rcases k1 with k1|k1<;>rcases k2 with k2|k2<;>rcases k3 with k3|k3<;>first
  |omega
  |(simp only [k0,k1,k2,k3,and_self,if_true];(repeat' split)<;>omega)
theorem vote_is {L:Nat→Int} {I:Nat→Bool} {bad d:Int} (h:∀s:Nat,s<4→(s:Int)≠bad→I s=true∧L s=d):Vt.val L I=d∧Vt.strong L I=true∧0<Vt.tot I 4:=by
 have h3:=cnt_three h
 have ht:=Vt.tot_le I 4
 have hc:=fun w (hw:d≠w)=>cnt_tot L I d w hw 4
 have hct:Vt.cnt L I d 4≤Vt.tot I 4:=by
  have:=cnt_tot L I d (d+1) (by omega) 4
  omega
 obtain⟨_,h1⟩:=Vt.vt_rv L I 4 (by omega)
 have hv:=h1 (by omega)
 have hval:Vt.val L I=d:=by
  have hmax:∀k,k≤4→∀s,s<k→I s=true→Vt.cnt L I (L s) 4≤(Vt.vt L I k).1:=fun k=>by
   induction k with
   |zero=>intro _ s hs;omega
   |succ k ih=>
    intro hk s hs hI
    unfold Vt.vt
    by_cases e:s=k
    ·
     subst e
     by_cases c:I s=true∧(Vt.vt L I s).1<Vt.cnt L I (L s) 4
     · rw [if_pos c];exact Nat.le_refl _
     ·
      rw [if_neg c]
      have:¬(Vt.vt L I s).1<Vt.cnt L I (L s) 4:=fun x=>c ⟨hI,x⟩
      omega
    ·
     have:=ih (by omega) s (by omega) hI
     by_cases c:I k=true∧(Vt.vt L I k).1<Vt.cnt L I (L k) 4
     · rw [if_pos c];show _≤Vt.cnt L I (L k) 4;omega
     · rw [if_neg c];exact this
  have hx:∃s:Nat,s<4∧(s:Int)≠bad:=by
   by_cases e:((0:Nat):Int)=bad
   · exact⟨1,by omega,by omega⟩
   · exact⟨0,by omega,e⟩
  obtain⟨s,hs4,hsb⟩:=hx
  have hm:=hmax 4 (by omega) s hs4 (h s hs4 hsb).1
  rw [(h s hs4 hsb).2,hv]at hm
  unfold Vt.val
  by_cases e:d=Vt.rv L I 4
  · exact e.symm
  ·
   have:=hc _ e
   have hm2:Vt.cnt L I d 4≤Vt.cnt L I (Vt.rv L I 4) 4:=hm
   omega
 refine⟨hval,?_,by omega⟩
 unfold Vt.strong
 rw [hv]
 unfold Vt.val at hval
 rw [hval]
 exact decide_eq_true (by show Vt.tot I 4<2*Vt.cnt L I d 4;omega)
def RSame (r s:RS):Prop:=∀i,i<4→r.f i=s.f i∧r.m i=s.m i∧r.j i=s.j i
theorem okTo_congr {r s:RS} (h:RSame r s):∀n,n≤4→okTo r.f r.m r.j n=okTo s.f s.m s.j n
 |0,_=>rfl
 |n+1,hn=>by
  unfold okTo
  obtain⟨h1,h2,h3⟩:=h n (by omega)
  rw [okTo_congr h n (by omega),okAt_congr h1 h2 h3]
end Cf
namespace Cf
open Go.RowKit Mem Rws Nd Cl
section
variable {c : CluS} {x : InS}
theorem F4_low {p:Nat} (hp:p<4) (hb:(p:Int)≠x.bad) (j:Nat) (h:j<51∨55≤j) (h70:j≠70):F4 c x p j=decG (F2 c x p) (A3 c x p) allP 3 3 j:=by
 rw [F4_good hp hb]
 unfold G4 passK
 rw [if_neg (by omega),F3_good hp hb]
 unfold G3 decF
 rw [if_neg (by omega)]
theorem F4_dig {p:Nat} (hp:p<4) (hb:(p:Int)≠x.bad):F4 c x p 70=.int .i64 (D3 c x p):=by
 rw [F4_good hp hb]
 unfold G4 passK
 rw [if_neg (by omega),F3_good hp hb]
 unfold G3 decF
 rw [if_pos (.inl rfl)]
 rfl
theorem F4_roll {p:Nat} (hp:p<4) (hb:(p:Int)≠x.bad) (j:Nat) (h1:27≤j) (h2:j<39):F4 c x p j=c.F p j:=by
 rw [F4_low hp hb j (by omega) (by omega),decG_low _ _ _ _ _ _ (by omega) (by omega) (by omega)]
 exact F2_keeps hp hb j (by omega) (by omega)
theorem roll4 {p:Nat} (hp:p<4) (hb:(p:Int)≠x.bad):RSame (rollOf (F4 c x p)) (rollOf (c.F p)):=fun i hi=>by
 unfold rollOf inB
 dsimp only
 rw [F4_roll hp hb _ (by omega) (by omega),F4_roll hp hb (31+i) (by omega) (by omega),F4_roll hp hb (35+i) (by omega) (by omega)]
 exact⟨rfl,rfl,rfl⟩
noncomputable def VG (c:CluS) (x:InS) (d:Int):List Bool:=(List.range 4).map fun s=>decide (LG c x s=d)
structure Facts (c:CluS) (x:InS) (p:Nat):Prop where
 val:Vt.val (L5 c x p) (inB (F4 c x p))=D3 c x p
 strong:Vt.strong (L5 c x p) (inB (F4 c x p))=true
 agree:V5 c x p=VG c x (D3 c x p)
 good:okTo (rollOf (F4 c x p)).f (rollOf (F4 c x p)).m (rollOf (F4 c x p)).j 4=true
theorem facts (hs:Sane c) (hrd:∀i,i<12→Wf (x.rd i)) (ha:Alike c x.bad) {p:Nat} (hp:p<4) (hb:(p:Int)≠x.bad):Facts c x p:=by
 have hg1:=good1 hs hrd
 have hg2:=good2 hg1
 have hg4:=good4 (good3 hg2)
 have hL:∀s,s<4→L5 c x p s=LG c x s:=votes_all hs hg4 hp hb
 have hk:∀s:Nat,s<4→(s:Int)≠x.bad→inB (F4 c x p) s=true∧L5 c x p s=D3 c x p:=fun s hs4 hsb=>by
  refine⟨?_,?_⟩
  ·
   have:=(roll4 (c:=c) (x:=x) hp hb s hs4).1
   exact this.trans (ha.inn p s hp hs4 hb hsb).1
  ·
   rw [hL s hs4]
   unfold LG
   rw [if_neg hsb]
   exact(digest_same hs hrd hg2 ha hs4 hp hsb hb).2
 obtain⟨h1,h2,h3⟩:=vote_is hk
 refine⟨h1,h2,?_,?_⟩
 ·
  unfold V5 agreeL VG
  refine List.map_congr_left fun s hs'=>?_
  have hs4:=List.mem_range.1 hs'
  unfold Vt.agrees
  rw [h1,hL s hs4,decide_eq_true h3,Bool.true_and]
 ·
  rw [okTo_congr (roll4 hp hb) 4 (by omega)]
  exact ha.roll p hp hb
noncomputable def RG (c:CluS) (x:InS) (p:Nat):RS:=(many (rollOf (F4 c x p)) (fun i=>(VG c x (D3 c x p)).getD i false) 4).1
theorem judge_is {p:Nat} (hf:Facts c x p):G5 c x p=rollW (voteF (F4 c x p) (D3 c x p) true) (RG c x p):=by
 have hV:agreeL (L5 c x p) (inB (F4 c x p))=VG c x (D3 c x p):=hf.agree
 have hlen:(VG c x (D3 c x p)).length=4:=by unfold VG;simp
 have hJ:judgeR (L5 c x p) (F4 c x p)=(RG c x p,(many (rollOf (F4 c x p)) (fun i=>(VG c x (D3 c x p)).getD i false) 4).2,0):=by
  unfold judgeR
  rw [hf.strong,hV]
  unfold stepR
  rw [if_neg (by omega),if_neg (by rw [hf.good];simp),if_neg (by simp)]
  rfl
 unfold G5 judgeF
 rw [hJ,if_pos rfl,hf.val,hf.strong]
theorem close_is {p:Nat} (hp:p<4) (hb:(p:Int)≠x.bad) (hf:Facts c x p):G6 c x p=G5 c x p:=by
 unfold G6 closeF
 rw [F5_good hp hb]
 have h70:G5 c x p 70=.int .i64 (D3 c x p):=by
  rw [judge_is hf]
  unfold rollW voteF
  rw [if_neg (by omega),if_neg (by omega),if_neg (by omega)]
  exact F4_dig hp hb
 have h71:G5 c x p 71=.int .i64 (D3 c x p):=by
  rw [judge_is hf]
  unfold rollW voteF
  rw [if_neg (by omega),if_pos rfl]
 have hl:lostB (G5 c x p)=false:=by
  unfold lostB
  rw [h70,h71]
  simp
 rw [hl,if_neg (by simp)]
theorem F6_is {p:Nat} (hp:p<4) (hb:(p:Int)≠x.bad) (hf:Facts c x p):F6 c x p=rollW (voteF (F4 c x p) (D3 c x p) true) (RG c x p):=by
 unfold F6
 rw [newK_good hp hb,close_is hp hb hf,judge_is hf]
theorem F6_low {p:Nat} (hp:p<4) (hb:(p:Int)≠x.bad) (hf:Facts c x p) (j:Nat) (h:j<27∨(39≤j∧j<51)∨(55≤j∧j<70)):F6 c x p j=decG (F2 c x p) (A3 c x p) allP 3 3 j:=by
 rw [F6_is hp hb hf]
 unfold rollW voteF
 rw [if_neg (by omega),if_neg (by omega),if_neg (by omega)]
 exact F4_low hp hb j (by omega) (by omega)
theorem F6_high {p:Nat} (hp:p<4) (hb:(p:Int)≠x.bad) (hf:Facts c x p):F6 c x p 70=.int .i64 (D3 c x p)∧F6 c x p 71=.int .i64 (D3 c x p)∧F6 c x p 72=.bool true:=by
 rw [F6_is hp hb hf]
 refine⟨?_,?_,?_⟩
 ·
  unfold rollW voteF
  rw [if_neg (by omega),if_neg (by omega),if_neg (by omega)]
  exact F4_dig hp hb
 ·
  unfold rollW voteF
  rw [if_neg (by omega),if_pos rfl]
 ·
  unfold rollW voteF
  rw [if_neg (by omega),if_neg (by omega),if_pos rfl]
end
end Cf
namespace Cf
open Go.RowKit Mem Rws Nd Cl
def outN (lo hi:Int) (l:List Int):Nat:=l.countP fun v=>decide (v<lo∨hi<v)
theorem outN_cons (lo hi v:Int) (l:List Int):outN lo hi (v::l)=outN lo hi l+if v<lo∨hi<v then 1 else 0:=by
 unfold outN
 rw [List.countP_cons]
 simp only [decide_eq_true_eq]
theorem mid_within {l:List Int} {lo hi:Int} (h:(l.length=3∧outN lo hi l=0)∨(l.length=4∧outN lo hi l≤1)):lo≤(Md.midZ l).1∧(Md.midZ l).1≤hi:=by
 have hp:outN lo hi (Md.srt l)=outN lo hi l:=(Md.srt_perm l).countP_eq _
 have hs:=Md.srt_sorted l
 have hl:=Md.srt_len l
 unfold Md.midZ
 rw [if_neg (by omega)]
 show lo≤Md.midOf l∧Md.midOf l≤hi
 unfold Md.midOf
 rw [←hp]at h
 rcases h with⟨h1,h2⟩|⟨h1,h2⟩
 ·
  rw [h1]
  rw [h1]at hl
  generalize Md.srt l=S at*
  match S,hl with
  |[a,b,d],_=>
   simp only [outN_cons,List.pairwise_cons]at h2 hs
   have e1:([a,b,d]:List Int).getD ((3-1)/3) 0=a:=rfl
   have e2:([a,b,d]:List Int).getD (3-1-(3-1)/3) 0=d:=rfl
   rw [e1,e2]
   have:=hs.1 b (by simp)
   have:=hs.1 d (by simp)
   (repeat' split at h2)<;>omega
 ·
  rw [h1]
  rw [h1]at hl
  generalize Md.srt l=S at*
  match S,hl with
  |[a,b,d,e],_=>
   simp only [outN_cons,List.pairwise_cons]at h2 hs
   have e1:([a,b,d,e]:List Int).getD ((4-1)/3) 0=b:=rfl
   have e2:([a,b,d,e]:List Int).getD (4-1-(4-1)/3) 0=d:=rfl
   rw [e1,e2]
   have:=hs.1 b (by simp)
   have:=hs.2.1 d (by simp)
   have:=hs.2.2.1 e (by simp)
   (repeat' split at h2)<;>omega
theorem fuse_within {I:Nat→Bool} {z:Nat→Int} {bad lo hi:Int} (h:∀s:Nat,s<4→(s:Int)≠bad→I s=true∧lo≤z s∧z s≤hi):lo≤(Md.midZ (fuseL I z 4)).1∧(Md.midZ (fuseL I z 4)).1≤hi:=by
 refine mid_within ?_
 obtain⟨n,hn⟩:∃n:Nat→Nat,∀s,n s=if I s then 1 else 0:=⟨_,fun _=>rfl⟩
 obtain⟨o,ho⟩:∃o:Nat→Nat,∀s,o s=if I s then(if z s<lo∨hi<z s then 1 else 0)else 0:=⟨_,fun _=>rfl⟩
 have hlen:∀k,(fuseL I z (k+1)).length=(fuseL I z k).length+n k:=fun k=>by
  rw [hn]
  have h1:fuseL I z (k+1)=if I k then fuseL I z k++[z k]else fuseL I z k:=rfl
  rw [h1]
  cases hI:I k with
  |true=>rw [if_pos rfl,if_pos rfl,List.length_append];rfl
  |false=>rw [if_neg (by simp),if_neg (by simp)];rfl
 have hout:∀k,outN lo hi (fuseL I z (k+1))=outN lo hi (fuseL I z k)+o k:=fun k=>by
  rw [ho]
  have h1:fuseL I z (k+1)=if I k then fuseL I z k++[z k]else fuseL I z k:=rfl
  rw [h1]
  cases hI:I k with
  |true=>
   rw [if_pos rfl,if_pos rfl]
   unfold outN
   rw [List.countP_append,List.countP_cons,List.countP_nil]
   simp only [decide_eq_true_eq,Nat.zero_add]
  |false=>rw [if_neg (by simp),if_neg (by simp)];rfl
 have hb:∀s,o s≤n s∧n s≤1:=fun s=>by
  rw [hn,ho]
  (repeat' split)<;>omega
 have hk:∀s:Nat,s<4→(s:Int)=bad∨(n s=1∧o s=0):=fun s hs=>by
  by_cases e:(s:Int)=bad
  · exact .inl e
  ·
   obtain⟨h1,h2,h3⟩:=h s hs e
   refine .inr ?_
   rw [hn,ho,if_pos h1,if_pos h1,if_neg (by omega)]
   exact⟨rfl,rfl⟩
 have l0:(fuseL I z 0).length=0:=rfl
 have q0:outN lo hi (fuseL I z 0)=0:=rfl
 have l1:=hlen 0
 have l2:=hlen 1
 have l3:=hlen 2
 have l4:=hlen 3
 have q1:=hout 0
 have q2:=hout 1
 have q3:=hout 2
 have q4:=hout 3
 have b0:=hb 0
 have b1:=hb 1
 have b2:=hb 2
 have b3:=hb 3
 have k0:=hk 0 (by omega)
 have k1:=hk 1 (by omega)
 have k2:=hk 2 (by omega)
 have k3:=hk 3 (by omega)
 simp only [Nat.zero_add,Nat.reduceAdd]at l1 l2 l3 l4 q1 q2 q3 q4
 omega
section
variable {c : CluS} {x : InS}
theorem used_within (hs:Sane c) (hrd:∀i,i<12→Wf (x.rd i)) (ha:Alike c x.bad) {p:Nat} (hp:p<4) (hpb:(p:Int)≠x.bad) {a:Nat} (ha3:a<3) {lo hi:Int} (h:∀s:Nat,s<4→(s:Int)≠x.bad→lo≤x.rd (s*3+a)∧x.rd (s*3+a)≤hi):
  lo≤usedZ (F2 c x p) (A3 c x p) a∧usedZ (F2 c x p) (A3 c x p) a≤hi:=by
 have hg:=good2 (good1 hs hrd)
 unfold usedZ
 refine fuse_within (bad:=x.bad) fun s hs4 hsb=>⟨?_,?_⟩
 ·
  have h1:=(ha.inn p s hp hs4 hpb hsb).1
  unfold inB at h1 ⊢
  rw [F2_keeps hp hpb _ (by omega) (by omega)]
  exact h1
 ·
  rw [agreed_all hs hrd hg hp hpb _ (by omega)]
  unfold AG
  rw [show(s*3+a)/3=s by omega,if_neg hsb]
  exact h s hs4 hsb
end
end Cf
end Go.Proofs.YtljpoibnkkcjdaaGreatDoor
