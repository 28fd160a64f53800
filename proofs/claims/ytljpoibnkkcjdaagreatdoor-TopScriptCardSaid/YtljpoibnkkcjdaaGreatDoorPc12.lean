import Derived.Shelf.Small.Bits
import Derived.Test.YtljpoibnkkcjdaaGreatDoorPc11
set_option linter.unusedVariables false
set_option linter.unusedSimpArgs false
namespace Go.Proofs.YtljpoibnkkcjdaaGreatDoor
namespace BigW
open Go.RowKit Mem BigLaw
def fadd (a b:Int):Int×Bool:=stop (a+b)
def fsub (a b:Int):Int×Bool:=stop (a-b)
def In64 (a:Int):Prop:= -9223372036854775808≤a∧a≤9223372036854775807
theorem stop_range (X:Int):In64 (stop X).1:=by
 unfold stop in64 In64
 split
 · rename_i h;exact of_decide_eq_true h
 · split<;>exact⟨by decide,by decide⟩
theorem fmul_range (a b:Int):In64 (fmul a b).1:=stop_range _
theorem fadd_range (a b:Int):In64 (fadd a b).1:=stop_range _
theorem fsub_range (a b:Int):In64 (fsub a b).1:=stop_range _
def Bent (w:World) (T:TypeId) (g:Nat) (x:Bool):Prop:=Blk w g T #[.bool x]
theorem Bent.grown {w w':World} {T:TypeId} {g:Nat} {x:Bool} (h:Bent w T g x) {row:Option Nat} (hg:w.grownBy w' row) (hne:some g≠row):Bent w' T g x:=Blk.grown h hg hne
theorem Bent.below {w w':World} {T:TypeId} {g:Nat} {x:Bool} (h:Bent w T g x) (hb:Below w.heap.size w w'):Bent w' T g x:=Blk.below h hb (Blk.lt h)
end BigW
namespace FixDivLaw
def nearest (a b:Int):Int:=if b<0 then(-a*8589934592+ -b)/(2* -b)else(a*8589934592+b)/(2*b)
theorem near_pos {q d r:Int} (hr:0≤r) (hrd:r<d):(2*(q*d+r)+d)/(2*d)=q+if d≤2*r then 1 else 0:=by
 have e:2*(q*d+r)+d=(2*r+d)+(2*d)*q:=by
  rw [Int.mul_add,Int.mul_assoc 2 d q,Int.mul_comm d q];omega
 rw [e,Int.add_mul_ediv_left _ _ (by omega)]
 split
 ·
  have:(2*r+d)/(2*d)=1:=by
   refine Int.le_antisymm ?_ ?_
   · exact Int.le_of_lt_add_one (Int.ediv_lt_of_lt_mul (by omega) (by omega))
   · exact(Int.le_ediv_iff_mul_le (by omega)).2 (by omega)
  omega
 ·
  have:(2*r+d)/(2*d)=0:=Int.ediv_eq_zero_of_lt (by omega) (by omega)
  omega
theorem near_neg {q d r:Int} (hr:0≤r) (hrd:r<d):(-(2*(q*d+r))+d)/(2*d)= -(q+if d<2*r then 1 else 0):=by
 have e: -(2*(q*d+r))+d=(d-2*r)+(2*d)*(-q):=by
  rw [Int.mul_add,Int.mul_neg,Int.mul_assoc 2 d q,Int.mul_comm d q];omega
 rw [e,Int.add_mul_ediv_left _ _ (by omega)]
 split
 ·
  have:(d-2*r)/(2*d)= -1:=by
   refine Int.le_antisymm ?_ ?_
   · exact Int.le_of_lt_add_one (Int.ediv_lt_of_lt_mul (by omega) (by omega))
   · exact(Int.le_ediv_iff_mul_le (by omega)).2 (by omega)
  omega
 ·
  have:(d-2*r)/(2*d)=0:=Int.ediv_eq_zero_of_lt (by omega) (by omega)
  omega
theorem quot_two (N hi lo d:Nat) (hd:0<d) (h1:N=hi*18446744073709551616+lo):
  (hi/d)*18446744073709551616+(hi%d*18446744073709551616+lo)/d=N/d∧(hi%d*18446744073709551616+lo)%d=N%d:=by
 have h2:=Nat.div_add_mod hi d
 have e:N=(hi%d*18446744073709551616+lo)+d*(hi/d*18446744073709551616):=by
  have h3:hi*18446744073709551616=(d*(hi/d)+hi%d)*18446744073709551616:=congrArg (· *18446744073709551616) h2.symm
  rw [h1,h3,Nat.add_mul,Nat.mul_assoc]
  omega
 rw [e]
 exact⟨by rw [Nat.add_mul_div_left _ _ hd,Nat.add_comm],by rw [Nat.add_mul_mod_self_left]⟩
theorem quot_sum (N d:Nat):(N:Int)=((N/d:Nat):Int)*(d:Int)+((N%d:Nat):Int):=by
 have:=Nat.div_add_mod N d
 rw [Nat.mul_comm]at this
 rw [←Int.natCast_mul,←Int.natCast_add,this]
theorem nearest_same {a b:Int} (h:(a<0∧b<0)∨(0≤a∧0<b)):nearest a b=((a.natAbs*4294967296/b.natAbs+if b.natAbs≤2*(a.natAbs*4294967296%b.natAbs)then 1 else 0:Nat):Int):=by
 have hb:0<b.natAbs:=by omega
 have hr:=Nat.mod_lt (a.natAbs*4294967296) hb
 have hs:=quot_sum (a.natAbs*4294967296) b.natAbs
 have hn:=near_pos (q:=((a.natAbs*4294967296/b.natAbs:Nat):Int)) (d:=(b.natAbs:Int)) (r:=((a.natAbs*4294967296%b.natAbs:Nat):Int)) (by omega) (by omega)
 rw [←hs]at hn
 have e:nearest a b=(2*((a.natAbs*4294967296:Nat):Int)+(b.natAbs:Int))/(2*(b.natAbs:Int)):=by
  unfold nearest
  rcases h with⟨h1,h2⟩|⟨h1,h2⟩
  ·
   rw [if_pos h2]
   have e1: -a*8589934592+ -b=2*((a.natAbs*4294967296:Nat):Int)+(b.natAbs:Int):=by omega
   have e2: -b=(b.natAbs:Int):=by omega
   rw [e1,e2]
  ·
   rw [if_neg (by omega)]
   have e1:a*8589934592+b=2*((a.natAbs*4294967296:Nat):Int)+(b.natAbs:Int):=by omega
   have e2:b=(b.natAbs:Int):=by omega
   rw [e1,←e2]
 rw [e,hn]
 generalize a.natAbs*4294967296/b.natAbs=q
 generalize a.natAbs*4294967296%b.natAbs=r
 by_cases hc:b.natAbs≤2*r
 · rw [if_pos hc,if_pos (by omega)];omega
 · rw [if_neg hc,if_neg (by omega)];omega
theorem nearest_other {a b:Int} (h:(a<0∧0<b)∨(0≤a∧b<0)):nearest a b= -((a.natAbs*4294967296/b.natAbs+if b.natAbs<2*(a.natAbs*4294967296%b.natAbs)then 1 else 0:Nat):Int):=by
 have hb:0<b.natAbs:=by omega
 have hr:=Nat.mod_lt (a.natAbs*4294967296) hb
 have hs:=quot_sum (a.natAbs*4294967296) b.natAbs
 have hn:=near_neg (q:=((a.natAbs*4294967296/b.natAbs:Nat):Int)) (d:=(b.natAbs:Int)) (r:=((a.natAbs*4294967296%b.natAbs:Nat):Int)) (by omega) (by omega)
 rw [←hs]at hn
 have e:nearest a b=(-(2*((a.natAbs*4294967296:Nat):Int))+(b.natAbs:Int))/(2*(b.natAbs:Int)):=by
  unfold nearest
  rcases h with⟨h1,h2⟩|⟨h1,h2⟩
  ·
   rw [if_neg (by omega)]
   have e1:a*8589934592+b= -(2*((a.natAbs*4294967296:Nat):Int))+(b.natAbs:Int):=by omega
   have e2:b=(b.natAbs:Int):=by omega
   rw [e1,←e2]
  ·
   rw [if_pos h2]
   have e1: -a*8589934592+ -b= -(2*((a.natAbs*4294967296:Nat):Int))+(b.natAbs:Int):=by omega
   have e2: -b=(b.natAbs:Int):=by omega
   rw [e1,e2]
 rw [e,hn]
 generalize a.natAbs*4294967296/b.natAbs=q
 generalize a.natAbs*4294967296%b.natAbs=r
 by_cases hc:b.natAbs<2*r
 · rw [if_pos hc,if_pos (by omega)];omega
 · rw [if_neg hc,if_neg (by omega)];omega
end FixDivLaw
namespace BigW
open Go.RowKit Mem BigLaw FixDivLaw
def fdiv (a b:Int):Int×Bool:=if b=0 then(if 0<a then(9223372036854775807,true)else if a<0 then(-9223372036854775808,true)else(0,true))else stop (nearest a b)
end BigW
namespace Len
open Go.Shelf
def lays134_ren:Go.Shelf.Ren:=⟨fun|134=>143|129=>115|n=>n,fun|53=>59|3=>3|4=>4|46=>61|5=>5|9=>9|n=>n,fun|n=>n⟩
theorem lays134:Go.Proofs.Lays.n134 Tryz.prog lays134_ren:={
 mixed:=by kernel_rfl
 f129:=Tryz.func115.trans (congrArg some (by kernel_rfl))
 f134:=Tryz.func143.trans (congrArg some (by kernel_rfl))
 t3:=Tryz.underlying3
 a3:=Tryz.isAgg3
 z3:=Tryz.sizeOf3
 v3:=Tryz.zeroValue3
 t4:=Tryz.underlying4
 a4:=Tryz.isAgg4
 z4:=Tryz.sizeOf4
 v4:=Tryz.zeroValue4
 t5:=Tryz.underlying5
 a5:=Tryz.isAgg5
 z5:=Tryz.sizeOf5
 v5:=Tryz.zeroValue5
 t9:=Tryz.underlying9
 a9:=Tryz.isAgg9
 z9:=Tryz.sizeOf9
 v9:=Tryz.zeroValue9
 t46:=Tryz.underlying61
 a46:=Tryz.isAgg61
 z46:=Tryz.sizeOf61
 v46:=Tryz.zeroValue61
 t53:=Tryz.underlying59
 a53:=Tryz.isAgg59
 z53:=Tryz.sizeOf59
 v53:=Tryz.zeroValue59 }
theorem leadingZeros_any (x:Int) (w:World) (h0:0≤x) (h1:x≤18446744073709551615):
  Calls Tryz.prog 143 #[.int .u64 x] w fun e w'=>e=.returned (.int .i64 (64-(Lib.bitLen x.toNat:Int)))∧w'=w:=Any.bits_LeadingZeros64 lays134 x w h0 h1
end Len
namespace Div64Law
structure Trial (U V h top g r:Nat):Prop where
 sum:g*top+r=h
 ge:U/V≤g
structure Half (U V h x top next:Nat):Prop where
 hU:U=h*4294967296+x
 hV:V=top*4294967296+next
 hx:x<4294967296
 hn:next<4294967296
 ht:2147483648≤top
 ht2:top<4294967296
 lt:h<V
theorem mul_le_word {x y:Nat} (hx:x≤4294967295) (hy:y≤4294967295):x*y≤18446744065119617025:=Nat.mul_le_mul hx hy
theorem Half.pos {U V h x top next:Nat} (S:Half U V h x top next):0<V:=by
 have:=S.hV;have:=S.ht;omega
theorem Half.first {U V h x top next:Nat} (S:Half U V h x top next):Trial U V h top (h/top) (h%top):=by
 have ht:=S.ht
 refine⟨by rw [Nat.mul_comm];exact Nat.div_add_mod _ _,?_⟩
 rw [Nat.le_div_iff_mul_le (by omega)]
 have hq:U/V*V≤U:=Nat.div_mul_le_self _ _
 generalize U/V=q at hq
 have e1:q*V=q*top*4294967296+q*next:=by rw [S.hV,Nat.mul_add q (top*4294967296) next,←Nat.mul_assoc q top 4294967296]
 rw [e1,S.hU]at hq
 have:=S.hx
 omega
theorem Half.less {U V h x top next g r:Nat} (S:Half U V h x top next) (T:Trial U V h top g r) (hc:4294967296≤g∨r*4294967296+x<g*next):
  0<g∧Trial U V h top (g-1) (r+top):=by
 have hp:=S.pos
 obtain⟨h1,h2⟩:=T
 have hlt:U/V<g:=by
  rcases hc with hc|hc
  ·
   have:U/V<4294967296:=by
    rw [Nat.div_lt_iff_lt_mul hp,S.hU]
    have:=S.lt
    have:=S.hx
    omega
   omega
  ·
   have e1:g*V=g*top*4294967296+g*next:=by rw [S.hV,Nat.mul_add g (top*4294967296) next,←Nat.mul_assoc g top 4294967296]
   rw [Nat.div_lt_iff_lt_mul hp,S.hU,e1,←h1,Nat.add_mul (g*top) r 4294967296]
   rw [Nat.add_assoc]
   exact Nat.add_lt_add_left hc _
 have hg0:0<g:=Nat.lt_of_le_of_lt (Nat.zero_le _) hlt
 refine⟨hg0,?_,Nat.le_sub_one_of_lt hlt⟩
 obtain⟨k,rfl⟩:∃k,g=k+1:=⟨g-1,by omega⟩
 rw [Nat.add_mul,Nat.one_mul]at h1
 rw [Nat.add_sub_cancel]
 omega
theorem Half.last {U V h x top next g r:Nat} (S:Half U V h x top next) (T:Trial U V h top g r) (hc:(g<4294967296∧g*next≤r*4294967296+x)∨4294967296≤r):g=U/V:=by
 have hp:=S.pos
 obtain⟨h1,h2⟩:=T
 have hle:g*V≤U:=by
  have hm:g*next≤r*4294967296+x:=by
   rcases hc with hc|hc
   · exact hc.2
   ·
    have hg:g<4294967296:=by
     have h3:g*top<4294967296*top:=by
      have:=S.lt
      have:=S.hV
      have:=S.hn
      omega
     exact Nat.lt_of_mul_lt_mul_right h3
    have:=mul_le_word (x:=g) (y:=next) (by omega) (by have:=S.hn;omega)
    have:4294967296*4294967296≤r*4294967296:=Nat.mul_le_mul_right _ hc
    omega
  have e1:g*V=g*top*4294967296+g*next:=by rw [S.hV,Nat.mul_add g (top*4294967296) next,←Nat.mul_assoc g top 4294967296]
  rw [S.hU,e1]
  omega
 have:=(Nat.le_div_iff_mul_le hp).2 hle
 omega
theorem Half.bound {U V h x top next:Nat} (S:Half U V h x top next):h/top≤4294967297:=
 Nat.le_of_lt_succ (Nat.div_lt_of_lt_mul (show h<top*4294967298 by have:=S.lt;have:=S.hV;have:=S.hn;have:=S.ht;omega))
theorem Half.word {U V h x top next:Nat} (S:Half U V h x top next):U/V<4294967296:=by
 rw [Nat.div_lt_iff_lt_mul S.pos,S.hU]
 have:=S.lt
 have:=S.hx
 omega
theorem both {hi lo un1 un0 q1 q0 r1 r0 V:Nat} (h1:hi*4294967296+un1=q1*V+r1) (h0:r1*4294967296+un0=q0*V+r0) (hr:r0<V) (hlo:lo=un1*4294967296+un0):
  (hi*18446744073709551616+lo)/V=q1*4294967296+q0∧(hi*18446744073709551616+lo)%V=r0:=by
 have hp:0<V:=by omega
 have e:hi*18446744073709551616+lo=r0+V*(q1*4294967296+q0):=by
  have e1:V*(q1*4294967296+q0)=q1*V*4294967296+q0*V:=by
   rw [Nat.mul_add V (q1*4294967296) q0,Nat.mul_comm V q0,←Nat.mul_assoc V q1 4294967296,Nat.mul_comm V q1]
  rw [e1]
  have a1:hi*18446744073709551616+un1*4294967296=q1*V*4294967296+r1*4294967296:=by
   have h:=congrArg (· *4294967296) h1
   simp only [Nat.add_mul,Nat.mul_assoc,Nat.reduceMul]at h ⊢
   exact h
  clear e1 hr h1
  rw [hlo,←Nat.add_assoc,a1,Nat.add_assoc,h0,Nat.add_comm r0,Nat.add_assoc]
 rw [e]
 exact⟨by rw [Nat.add_mul_div_left _ _ hp,Nat.div_eq_of_lt hr,Nat.zero_add],by rw [Nat.add_mul_mod_self_left,Nat.mod_eq_of_lt hr]⟩
end Div64Law
namespace BigW
open Go.RowKit Mem BigLaw
theorem isLen_aux:∀(f x:Nat),x<2 ^ f→IsLen x (Lib.bitLenAux f x)
 |0,x,h=>by
  obtain rfl:x=0:=by simpa using h
  exact⟨fun _=>rfl,fun h=>absurd h (by omega)⟩
 |f+1,x,h=>by
  unfold Lib.bitLenAux
  by_cases h0:x=0
  · rw [if_pos h0];subst h0;exact⟨fun _=>rfl,fun h=>absurd h (by omega)⟩
  ·
   rw [if_neg h0,Nat.add_comm]
   exact isLen_half (isLen_aux f (x/2) (by rw [Nat.pow_succ]at h;omega)) h0
theorem isLen_bitLen {x:Nat} (h:x<18446744073709551616):IsLen x (Lib.bitLen x):=isLen_aux 64 x h
theorem norm64 {y:Nat} (h0:0<y) (h:y<18446744073709551616):∃s,Lib.bitLen y+s=64∧s≤63∧9223372036854775808≤y*2 ^ s∧y*2 ^ s<18446744073709551616:=by
 obtain⟨h1,h2,h3⟩:=(isLen_bitLen h).2 h0
 have hN:Lib.bitLen y≤64:=(isLen_lt (isLen_bitLen h)).2 h
 refine⟨64-Lib.bitLen y,by omega,by omega,?_,?_⟩
 ·
  have e:9223372036854775808=2 ^ (Lib.bitLen y-1)*2 ^ (64-Lib.bitLen y):=by
   rw [←Nat.pow_add,show Lib.bitLen y-1+(64-Lib.bitLen y)=63 by omega]
  rw [e];exact Nat.mul_le_mul_right _ h2
 ·
  have e:18446744073709551616=2 ^ Lib.bitLen y*2 ^ (64-Lib.bitLen y):=by
   rw [←Nat.pow_add,show Lib.bitLen y+(64-Lib.bitLen y)=64 by omega]
  rw [e];exact Nat.mul_lt_mul_of_pos_right h3 (Nat.two_pow_pos _)
theorem moved64 {hi lo s:Nat} (hlo:lo<18446744073709551616) (hs:s≤63) (hh:hi*2 ^ s<18446744073709551616):
  ∃U L,hi*2 ^ s|||lo/2 ^ (64-s)=U∧lo*2 ^ s%18446744073709551616=L∧U*18446744073709551616+L=(hi*18446744073709551616+lo)*2 ^ s∧U=hi*2 ^ s+lo/2 ^ (64-s)∧lo/2 ^ (64-s)<2 ^ s:=by
 have hp:=Nat.two_pow_pos s
 have hp2:=Nat.two_pow_pos (64-s)
 have hc:2 ^ (64-s)*2 ^ s=18446744073709551616:=by rw [←Nat.pow_add,show 64-s+s=64 by omega]
 have hlt:lo/2 ^ (64-s)<2 ^ s:=by
  rw [Nat.div_lt_iff_lt_mul hp2,Nat.mul_comm,hc];exact hlo
 have hor:hi*2 ^ s|||lo/2 ^ (64-s)=hi*2 ^ s+lo/2 ^ (64-s):=by
  rw [Nat.mul_comm];exact(Nat.two_pow_add_eq_or_of_lt hlt hi).symm
 refine⟨_,_,rfl,rfl,?_,hor,hlt⟩
 rw [hor]
 have h1:lo*2 ^ s=lo/2 ^ (64-s)*18446744073709551616+lo%2 ^ (64-s)*2 ^ s:=by
  have h:=congrArg (· *2 ^ s) (Nat.div_add_mod lo (2 ^ (64-s)))
  simp only [Nat.add_mul]at h
  rw [←h,Nat.mul_comm (2 ^ (64-s)) (lo/2 ^ (64-s)),Nat.mul_assoc (lo/2 ^ (64-s)),hc]
 have h2:lo%2 ^ (64-s)*2 ^ s<18446744073709551616:=by
  rw [←hc];exact Nat.mul_lt_mul_of_pos_right (Nat.mod_lt _ hp2) hp
 have h3:lo*2 ^ s%18446744073709551616=lo%2 ^ (64-s)*2 ^ s:=by
  rw [h1,Nat.add_comm,Nat.add_mul_mod_self_right,Nat.mod_eq_of_lt h2]
 rw [h3,Nat.add_mul,Nat.add_mul,h1,Nat.mul_right_comm hi (2 ^ s) 18446744073709551616,Nat.add_assoc]
theorem wrap_rest (U x q V r:Nat) (h:U*4294967296+x=q*V+r) (hr:r<18446744073709551616):
  IntKind.u64.wrap (IntKind.u64.wrap (IntKind.u64.wrap ((U:Int)*4294967296)+(x:Int))-IntKind.u64.wrap ((q:Int)*(V:Int)))=(r:Int):=by
 have e:(q:Int)*(V:Int)=((q*V:Nat):Int):=(Int.natCast_mul _ _).symm
 rw [e]
 simp only [u64wrap]
 generalize q*V=p at h ⊢
 omega
def TrialAt2 (U V h top:Nat) (sg sr:Value):Prop:=∃g r:Nat,sg=.int .u64 (g:Int)∧sr=.int .u64 (r:Int)∧g≤4294967297∧r<4294967296∧Hid (Div64Law.Trial U V h top g r)
set_option maxRecDepth 100000 in
set_option maxHeartbeats 4000000 in
theorem div64_any (hi lo y:Nat) (w:World) (hhy:hi<y) (hlo:lo<18446744073709551616) (hy:y<18446744073709551616):
  Calls Tryz.prog 126 #[.int .u64 (hi:Int),.int .u64 (lo:Int),.int .u64 (y:Int)] w fun e w'=>e=.returned (.tuple #[.int .u64 (((hi*18446744073709551616+lo)/y:Nat):Int),.int .u64 (((hi*18446744073709551616+lo)%y:Nat):Int)])∧∃n,w'=w.drewN n:=by
 obtain⟨Q,hQ⟩:∃Q,(hi*18446744073709551616+lo)/y=Q:=⟨_,rfl⟩
 obtain⟨R,hR⟩:∃R,(hi*18446744073709551616+lo)%y=R:=⟨_,rfl⟩
 rw [hQ,hR]
 have HQ:=Lib.hid hQ
 have HR:=Lib.hid hR
 have hy0:((y:Int)==0)=false:=by rw [beq_eq_false_iff_ne];omega
 have hle:¬(y:Int)≤(hi:Int):=by omega
 by_cases h0:hi=0
 ·
  subst h0
  rw [Nat.zero_mul,Nat.zero_add]at hQ hR
  have hyn:¬(y:Int)=0:=by omega
  have hyn1:¬y=0:=by omega
  have hq:IntKind.u64.wrap ((lo:Int)/(y:Int))=(Q:Int):=by
   have e:(lo:Int)/(y:Int)=((lo/y:Nat):Int):=rfl
   have:=Nat.div_le_self lo y
   rw [e,hQ,u64wrap];rw [hQ]at this;omega
  have hr:(lo:Int).tmod (y:Int)=(R:Int):=by
   have e:(lo:Int).tmod (y:Int)=((lo%y:Nat):Int):=rfl
   rw [e,hR]
  clear hQ hR
  go_enter Tryz.func126,Tryz.ntmps126
  go_wp2_with fail
  go_quiet (fail)
  go_wp2_with fail
  go_ret2
  exact⟨rfl,_,rfl⟩
 ·
  have h0':((hi:Int)==0)=false:=by rw [beq_eq_false_iff_ne];omega
  clear hQ hR
  obtain⟨s,hs1,hs2,hY1,hY2⟩:=norm64 (show 0<y by omega) hy
  have hHs:hi*2 ^ s<18446744073709551616:=Nat.lt_of_le_of_lt (Nat.mul_le_mul_right _ (Nat.le_of_lt hhy)) hY2
  obtain⟨U,L,hU,hL,hUL,hU2,hU3⟩:=moved64 (s:=s) hlo hs2 hHs
  have HN:=Lib.hid hs1
  have HUL:=Lib.hid hUL
  have HY1:=Lib.hid hY1
  have HYY:=Lib.hid hY2
  have hLl:L<18446744073709551616:=by rw [←hL];exact Nat.mod_lt _ (by omega)
  have eY:IntKind.u64.wrap ((y:Int)*2 ^ s)=((y*2 ^ s:Nat):Int):=by
   have e:(y:Int)*2 ^ s=((y*2 ^ s:Nat):Int):=by push_cast;rfl
   rw [e,u64wrap];generalize y*2 ^ s=Y at hY2;omega
  have eH:IntKind.u64.wrap ((hi:Int)*2 ^ s)=((hi*2 ^ s:Nat):Int):=by
   have e:(hi:Int)*2 ^ s=((hi*2 ^ s:Nat):Int):=by push_cast;rfl
   rw [e,u64wrap];generalize hi*2 ^ s=Y at hHs;omega
  have eL:IntKind.u64.wrap ((lo:Int)*2 ^ s)=(L:Int):=by
   have e:(lo:Int)*2 ^ s=((lo*2 ^ s:Nat):Int):=by push_cast;rfl
   rw [e,u64wrap,←hL];generalize lo*2 ^ s=Y;omega
  have eU:bits .or .u64 ((hi*2 ^ s:Nat):Int) ((lo:Int)/2 ^ (64-s))=(U:Int):=by
   have e:(lo:Int)/2 ^ (64-s)=((lo/2 ^ (64-s):Nat):Int):=by rw [Int.natCast_ediv,Int.natCast_pow];rfl
   rw [e,bits_or_u64_nat _ _ hHs (by have:=Nat.div_le_self lo (2 ^ (64-s));omega),hU]
  have hUV:U<y*2 ^ s:=by
   have h1:(hi+1)*2 ^ s≤y*2 ^ s:=Nat.mul_le_mul_right _ hhy
   rw [Nat.add_mul,Nat.one_mul]at h1
   omega
  have HU0:Hid (∀q r,U*18446744073709551616+L=q*(y*2 ^ s)+r*1→r<y*2 ^ s→q=Q∧r/2 ^ s=R):=Lib.hid fun q r h1 h2=>by
   rw [Nat.mul_one,hUL]at h1
   have hp:=Nat.two_pow_pos s
   have hyp:0<y*2 ^ s:=by omega
   have e1:(hi*18446744073709551616+lo)*2 ^ s/(y*2 ^ s)=(hi*18446744073709551616+lo)/y:=Nat.mul_div_mul_right _ _ hp
   have e2:(hi*18446744073709551616+lo)*2 ^ s%(y*2 ^ s)=(hi*18446744073709551616+lo)%y*2 ^ s:=Nat.mul_mod_mul_right _ _ _
   rw [h1,Nat.add_comm,Nat.add_mul_div_right _ _ hyp,Nat.div_eq_of_lt h2,HQ.out,Nat.zero_add]at e1
   rw [h1,Nat.add_comm,Nat.add_mul_mod_self_right,Nat.mod_eq_of_lt h2,HR.out]at e2
   exact⟨e1,by rw [e2,Nat.mul_div_cancel _ hp]⟩
  clear hU hL hUL hU2 hU3 hs1 HUL HY1 HYY
  generalize hi*2 ^ s=H at eH eU
  generalize y*2 ^ s=V at eY hUV hY1 hY2 HU0
  obtain⟨top,htop⟩:∃top,V/4294967296=top:=⟨_,rfl⟩
  obtain⟨next,hnext⟩:∃next,V%4294967296=next:=⟨_,rfl⟩
  obtain⟨u1,hu1⟩:∃u1,L/4294967296=u1:=⟨_,rfl⟩
  obtain⟨u0,hu0⟩:∃u0,L%4294967296=u0:=⟨_,rfl⟩
  have eTop:(V:Int)/4294967296=(top:Int):=by omega
  have eNext:bits .and .u64 (V:Int) 4294967295=(next:Int):=by rw [maskN V hY2,hnext]
  have eU1:(L:Int)/4294967296=(u1:Int):=by omega
  have eU0:bits .and .u64 (L:Int) 4294967295=(u0:Int):=by rw [maskN L hLl,hu0]
  have S1:Div64Law.Half (U*4294967296+u1) V U u1 top next:=⟨rfl,by omega,by omega,by omega,by omega,by omega,hUV⟩
  have HS1:=Lib.hid S1
  have htp:2147483648≤top:=S1.ht
  have htp2:top<4294967296:=S1.ht2
  have hnx:next<4294967296:=S1.hn
  have hu1l:u1<4294967296:=S1.hx
  have hu0l:u0<4294967296:=by omega
  have HLL:=Lib.hid (show L=u1*4294967296+u0 by omega)
  have hUl:U<18446744073709551616:=by omega
  have hd0:¬(top:Int)=0:=by omega
  have hd1:¬top=0:=by omega
  have hg0:U/top≤4294967297:=S1.bound
  have hr0:U%top<top:=Nat.mod_lt _ (by omega)
  have HT0:=Lib.hid S1.first
  have hq:IntKind.u64.wrap ((U:Int)/(top:Int))=((U/top:Nat):Int):=by
   have e:(U:Int)/(top:Int)=((U/top:Nat):Int):=rfl
   rw [e,u64wrap];generalize U/top=g at hg0 ⊢;omega
  have hrs:(U:Int)-((U/top:Nat):Int)*(top:Int)=((U%top:Nat):Int):=by
   have h:=Nat.div_add_mod U top
   have h2:(U:Int)=(top:Int)*((U/top:Nat):Int)+((U%top:Nat):Int):=by
    rw [←Int.natCast_mul,←Int.natCast_add,h]
   rw [Int.mul_comm];omega
  have hpl:((U/top:Nat):Int)*(top:Int)≤(U:Int):=by omega
  have hpl0:0≤((U/top:Nat):Int)*(top:Int):=Int.mul_nonneg (Int.natCast_nonneg _) (Int.natCast_nonneg _)
  generalize U/top=g0 at hq hrs hpl hpl0 hg0 HT0
  generalize U%top=r0 at hrs hr0 HT0
  clear hHs hY1 htop hnext hu1 hu0 S1
  go_enter Tryz.func126,Tryz.ntmps126
  go_wp2_with fail
  refine(Len.leadingZeros_any (y:Int) _ (by omega) (by omega)).mono ?_
  rintro e w1 ⟨rfl,rfl⟩
  rw [show(64-(Lib.bitLen (y:Int).toNat:Int))=(s:Int)by rw [Int.toNat_natCast];have:=HN.out;omega]
  go_upto_block 0 with fail
  obtain⟨q1,hq1⟩:∃q1,(U*4294967296+u1)/V=q1:=⟨_,rfl⟩
  have HQ1:=Lib.hid hq1
  clear hq1
  go_cut [15] (fun s15 wx=>s15=.int .u64 (q1:Int)∧wx=w1)
  case first=>
   clear eY eH eL eU eTop eNext eU1 eU0 hq hrs hpl hpl0 hd0 hd1 h0 h0' hy0 hle
   go_wp2_with fail
   go_loop [15,16] (fun sg sr=>TrialAt2 (U*4294967296+u1) V U top sg sr) (fun _ sr=>4294967296-(intOf sr).toNat)
   case atStart=>exact⟨g0,r0,rfl,rfl,hg0,by omega,HT0⟩
   case round=>
    obtain⟨g,r,rfl,rfl,hg,hrl,HTR⟩:=hrel
    have HL:=Lib.hid (fun hc=>HS1.out.less HTR.out hc)
    have HE:=Lib.hid (fun hc=>HS1.out.last HTR.out hc)
    by_cases hgb:4294967295<g
    ·
     obtain⟨h1,h2⟩:=HL.out (.inl (by omega))
     have HT1:=Lib.hid h2
     have HE1:=Lib.hid (fun hc=>HS1.out.last h2 hc)
     clear h2
     have hgb':(4294967296:Int)≤(g:Int):=by omega
     have hg1:(1:Int)≤(g:Int):=by omega
     by_cases hrb:4294967295<r+top
     ·
      have hrb':(4294967296:Int)≤(r:Int)+(top:Int):=by omega
      clear hgb hrb
      go_wp2_with fail
      go_meet
      exact⟨congrArg (Value.int .u64) (by have h:=HE1.out (.inr (by omega));rw [HQ1.out]at h;omega),rfl⟩
     ·
      have hrb':¬(4294967296:Int)≤(r:Int)+(top:Int):=by omega
      clear hgb hrb
      go_wp2_with fail
      exact⟨⟨g-1,r+top,congrArg (Value.int .u64) (by omega),congrArg (Value.int .u64) (by omega),by omega,by omega,HT1⟩,by simp [intOf];omega⟩
    ·
     have hgb':¬(4294967296:Int)≤(g:Int):=by omega
     have hp0:0≤(g:Int)*(next:Int):=Int.mul_nonneg (by omega) (by omega)
     have hp1:(g:Int)*(next:Int)<18446744073709551616:=by
      have:=Div64Law.mul_le_word (x:=g) (y:=next) (by omega) (by omega)
      rw [←Int.natCast_mul];omega
     have HC:=Lib.hid (Int.natCast_mul g next)
     by_cases hcmp:4294967296*(r:Int)+(u1:Int)<(g:Int)*(next:Int)
     ·
      have hcn:r*4294967296+u1<g*next:=by have:=HC.out;omega
      obtain⟨h1,h2⟩:=HL.out (.inr hcn)
      have HT1:=Lib.hid h2
      have HE1:=Lib.hid (fun hc=>HS1.out.last h2 hc)
      clear h2 hcn
      have hg1:(1:Int)≤(g:Int):=by omega
      by_cases hrb:4294967295<r+top
      ·
       have hrb':(4294967296:Int)≤(r:Int)+(top:Int):=by omega
       clear hgb hrb
       go_wp2_with fail
       go_meet
       exact⟨congrArg (Value.int .u64) (by have h:=HE1.out (.inr (by omega));rw [HQ1.out]at h;omega),rfl⟩
      ·
       have hrb':¬(4294967296:Int)≤(r:Int)+(top:Int):=by omega
       clear hgb hrb
       go_wp2_with fail
       exact⟨⟨g-1,r+top,congrArg (Value.int .u64) (by omega),congrArg (Value.int .u64) (by omega),by omega,by omega,HT1⟩,by simp [intOf];omega⟩
     ·
      have hcn:g*next≤r*4294967296+u1:=by have:=HC.out;omega
      have h1:=Lib.hid (HE.out (.inl ⟨by omega,hcn⟩))
      clear hgb hcn
      go_wp2_with fail
      go_meet
      exact⟨congrArg (Value.int .u64) (by have h:=h1.out;rw [HQ1.out]at h;omega),rfl⟩
  case rest=>
   obtain⟨rfl,rfl⟩:=hcut
   clear eY eH eL eU eTop eNext eU1 eU0 hq hrs hpl hpl0 h0 h0' hy0
   obtain⟨r1,hr1⟩:∃r1,(U*4294967296+u1)%V=r1:=⟨_,rfl⟩
   have h1l:q1<4294967296:=by rw [←HQ1.out];exact HS1.out.word
   have hsum:U*4294967296+u1=q1*V+r1:=by
    have h:=Nat.div_add_mod (U*4294967296+u1) V
    rw [HQ1.out,hr1,Nat.mul_comm]at h
    exact h.symm
   have hr1V:r1<V:=by rw [←hr1];exact Nat.mod_lt _ HS1.out.pos
   have eR1:=wrap_rest U u1 q1 V r1 hsum (by omega)
   have HSUM:=Lib.hid hsum
   have S2:Div64Law.Half (r1*4294967296+u0) V r1 u0 top next:=⟨rfl,HS1.out.hV,hu0l,hnx,htp,htp2,hr1V⟩
   have HS2:=Lib.hid S2
   have hg2:r1/top≤4294967297:=S2.bound
   have hr2:r1%top<top:=Nat.mod_lt _ (by omega)
   have HT2:=Lib.hid S2.first
   have hq:IntKind.u64.wrap ((r1:Int)/(top:Int))=((r1/top:Nat):Int):=by
    have e:(r1:Int)/(top:Int)=((r1/top:Nat):Int):=rfl
    rw [e,u64wrap];generalize r1/top=g at hg2 ⊢;omega
   have hrs:(r1:Int)-((r1/top:Nat):Int)*(top:Int)=((r1%top:Nat):Int):=by
    have h:=Nat.div_add_mod r1 top
    have h2:(r1:Int)=(top:Int)*((r1/top:Nat):Int)+((r1%top:Nat):Int):=by
     rw [←Int.natCast_mul,←Int.natCast_add,h]
    rw [Int.mul_comm];omega
   have hpl:((r1/top:Nat):Int)*(top:Int)≤(r1:Int):=by omega
   have hpl0:0≤((r1/top:Nat):Int)*(top:Int):=Int.mul_nonneg (Int.natCast_nonneg _) (Int.natCast_nonneg _)
   have hr1l:r1<18446744073709551616:=by omega
   generalize r1/top=g2 at hq hrs hpl hpl0 hg2 HT2
   generalize r1%top=r2 at hrs hr2 HT2
   clear hsum hr1 S2 HT0 hg0 hr0
   go_upto_block 2 with fail
   obtain⟨q2,hq2⟩:∃q2,(r1*4294967296+u0)/V=q2:=⟨_,rfl⟩
   have HQ2:=Lib.hid hq2
   clear hq2
   go_cut [18] (fun s18 wx=>s18=.int .u64 (q2:Int)∧wx=wc)
   case first=>
    clear eR1 hq hrs hpl hpl0 hd0 hd1 hle
    go_wp2_with fail
    go_loop [18,16] (fun sg sr=>TrialAt2 (r1*4294967296+u0) V r1 top sg sr) (fun _ sr=>4294967296-(intOf sr).toNat)
    case atStart=>exact⟨g2,r2,rfl,rfl,hg2,by omega,HT2⟩
    case round=>
     obtain⟨g,r,rfl,rfl,hg,hrl,HTR⟩:=hrel
     have HL:=Lib.hid (fun hc=>HS2.out.less HTR.out hc)
     have HE:=Lib.hid (fun hc=>HS2.out.last HTR.out hc)
     by_cases hgb:4294967295<g
     ·
      obtain⟨h1,h2⟩:=HL.out (.inl (by omega))
      have HT1:=Lib.hid h2
      have HE1:=Lib.hid (fun hc=>HS2.out.last h2 hc)
      clear h2
      have hgb':(4294967296:Int)≤(g:Int):=by omega
      have hg1:(1:Int)≤(g:Int):=by omega
      by_cases hrb:4294967295<r+top
      ·
       have hrb':(4294967296:Int)≤(r:Int)+(top:Int):=by omega
       clear hgb hrb
       go_wp2_with fail
       go_meet
       exact⟨congrArg (Value.int .u64) (by have h:=HE1.out (.inr (by omega));rw [HQ2.out]at h;omega),rfl⟩
      ·
       have hrb':¬(4294967296:Int)≤(r:Int)+(top:Int):=by omega
       clear hgb hrb
       go_wp2_with fail
       exact⟨⟨g-1,r+top,congrArg (Value.int .u64) (by omega),congrArg (Value.int .u64) (by omega),by omega,by omega,HT1⟩,by simp [intOf];omega⟩
     ·
      have hgb':¬(4294967296:Int)≤(g:Int):=by omega
      have hp0:0≤(g:Int)*(next:Int):=Int.mul_nonneg (by omega) (by omega)
      have hp1:(g:Int)*(next:Int)<18446744073709551616:=by
       have:=Div64Law.mul_le_word (x:=g) (y:=next) (by omega) (by omega)
       rw [←Int.natCast_mul];omega
      have HC:=Lib.hid (Int.natCast_mul g next)
      by_cases hcmp:4294967296*(r:Int)+(u0:Int)<(g:Int)*(next:Int)
      ·
       have hcn:r*4294967296+u0<g*next:=by have:=HC.out;omega
       obtain⟨h1,h2⟩:=HL.out (.inr hcn)
       have HT1:=Lib.hid h2
       have HE1:=Lib.hid (fun hc=>HS2.out.last h2 hc)
       clear h2 hcn
       have hg1:(1:Int)≤(g:Int):=by omega
       by_cases hrb:4294967295<r+top
       ·
        have hrb':(4294967296:Int)≤(r:Int)+(top:Int):=by omega
        clear hgb hrb
        go_wp2_with fail
        go_meet
        exact⟨congrArg (Value.int .u64) (by have h:=HE1.out (.inr (by omega));rw [HQ2.out]at h;omega),rfl⟩
       ·
        have hrb':¬(4294967296:Int)≤(r:Int)+(top:Int):=by omega
        clear hgb hrb
        go_wp2_with fail
        exact⟨⟨g-1,r+top,congrArg (Value.int .u64) (by omega),congrArg (Value.int .u64) (by omega),by omega,by omega,HT1⟩,by simp [intOf];omega⟩
      ·
       have hcn:g*next≤r*4294967296+u0:=by have:=HC.out;omega
       have h1:=Lib.hid (HE.out (.inl ⟨by omega,hcn⟩))
       clear hgb hcn
       go_wp2_with fail
       go_meet
       exact⟨congrArg (Value.int .u64) (by have h:=h1.out;rw [HQ2.out]at h;omega),rfl⟩
   case rest=>
    obtain⟨rfl,rfl⟩:=hcut
    obtain⟨r3,hr3⟩:∃r3,(r1*4294967296+u0)%V=r3:=⟨_,rfl⟩
    have h2l:q2<4294967296:=by rw [←HQ2.out];exact HS2.out.word
    have hsum:r1*4294967296+u0=q2*V+r3:=by
     have h:=Nat.div_add_mod (r1*4294967296+u0) V
     rw [HQ2.out,hr3,Nat.mul_comm]at h
     exact h.symm
    have hr3V:r3<V:=by rw [←hr3];exact Nat.mod_lt _ HS2.out.pos
    have eR3:=wrap_rest r1 u0 q2 V r3 hsum (by omega)
    obtain⟨b1,b2⟩:=Div64Law.both HSUM.out hsum hr3V HLL.out
    have hfin:=HU0.out (q1*4294967296+q2) r3 (by
     have h:=Nat.div_add_mod (U*18446744073709551616+L) V
     rw [b1,b2,Nat.mul_comm]at h
     rw [Nat.mul_one];exact h.symm) hr3V
    have eQ:IntKind.u64.wrap ((q1:Int)*4294967296+(q2:Int))=(Q:Int):=by
     have:=hfin.1
     rw [u64wrap];omega
    have eR4:(r3:Int)/2 ^ s=(R:Int):=by
     rw [←hfin.2,Int.natCast_ediv,Int.natCast_pow];rfl
    clear hsum hr3 b1 b2 hfin
    go_wp2_with fail
    go_ret2
    exact⟨rfl,0,rfl⟩
end BigW
namespace BigW
open Go.RowKit Mem BigLaw FixDivLaw
theorem carry_of (N Q h0 C L1 K:Nat) (h:h0*K+Q=N) (hC:K*C+L1=Q+1):(h0+C)*K+L1=N+1:=by
 rw [Nat.add_mul,Nat.mul_comm C K];omega
theorem div_carry (N Q h0 C L1:Nat) (h:h0*18446744073709551616+Q=N) (hC:(Q+1)/18446744073709551616=C) (hL:(Q+1)%18446744073709551616=L1):wideN (h0+C) L1=N+1:=by
 refine carry_of N Q h0 C L1 _ h ?_
 rw [←hC,←hL]
 exact Nat.div_add_mod _ _
theorem div_plain (N Q h0:Nat) (h:h0*18446744073709551616+Q=N):wideN h0 Q=N:=h
theorem sgd_pos (n:Nat):sgd false n=(n:Int):=by unfold sgd;rw [if_neg (by simp)]
theorem sgd_neg (n:Nat):sgd true n= -(n:Int):=by unfold sgd;rw [if_pos rfl]
theorem div_cases (a b:Int) (h0:b≠0):(((a<0∧b<0)∨(0≤a∧0<b))∧((b.natAbs≤2*(a.natAbs*4294967296%b.natAbs)∧nearest a b=sgd false (a.natAbs*4294967296/b.natAbs+1))∨(¬b.natAbs≤2*(a.natAbs*4294967296%b.natAbs)∧nearest a b=sgd false (a.natAbs*4294967296/b.natAbs+0))))∨
  (((a<0∧0<b)∨(0≤a∧b<0))∧((b.natAbs<2*(a.natAbs*4294967296%b.natAbs)∧nearest a b=sgd true (a.natAbs*4294967296/b.natAbs+1))∨(¬b.natAbs<2*(a.natAbs*4294967296%b.natAbs)∧nearest a b=sgd true (a.natAbs*4294967296/b.natAbs+0)))):=by
 rcases(by omega:((a<0∧b<0)∨(0≤a∧0<b))∨((a<0∧0<b)∨(0≤a∧b<0)))with h|h
 ·
  refine .inl ⟨h,?_⟩
  rw [nearest_same h]
  by_cases hu:b.natAbs≤2*(a.natAbs*4294967296%b.natAbs)
  · exact .inl ⟨hu,by rw [if_pos hu,sgd_pos]⟩
  · exact .inr ⟨hu,by rw [if_neg hu,sgd_pos]⟩
 ·
  refine .inr ⟨h,?_⟩
  rw [nearest_other h]
  by_cases hu:b.natAbs<2*(a.natAbs*4294967296%b.natAbs)
  · exact .inl ⟨hu,by rw [if_pos hu,sgd_neg]⟩
  · exact .inr ⟨hu,by rw [if_neg hu,sgd_neg]⟩
set_option maxHeartbeats 8000000 in
theorem fixDiv_n (a b:Int) (w:World) (h0:¬b=0) (ha: -9223372036854775808≤a∧a≤9223372036854775807) (hb: -9223372036854775808≤b∧b≤9223372036854775807):
  Calls Tryz.prog 104 #[.int .i64 a,.int .i64 b] w fun e w'=>e=.returned (.tuple #[.int .i64 (fdiv a b).1,.bool (fdiv a b).2])∧Below w.heap.size w w':=by
 have HF:=Lib.hid (show fdiv a b=stop (nearest a b)by unfold fdiv;rw [if_neg h0])
 have HA:=Lib.hid ha
 have HB:=Lib.hid hb
 have hb0:(b==0)=false:=by rw [beq_eq_false_iff_ne];omega
 have hAl:a.natAbs≤9223372036854775808:=by omega
 have hdl:b.natAbs≤9223372036854775808:=by omega
 have hd0:0<b.natAbs:=by omega
 clear ha hb
 rcases div_cases a b h0 with⟨⟨h1,h2⟩|⟨h1,h2⟩,⟨hu,hE⟩|⟨hu,hE⟩⟩|⟨⟨h1,h2⟩|⟨h1,h2⟩,⟨hu,hE⟩|⟨hu,hE⟩⟩
 all_goals
  have HE:=Lib.hid hE
  clear hE h0
  (try(have h1n:¬a<0:=(by omega);clear h1))
  (try(have h2n:¬b<0:=(by omega);clear h2))
  go_enter Tryz.func104,Tryz.ntmps104
  go_wp2_with fail
  refine(size_any b _ HB.out).mono ?_
  rintro e w1 ⟨rfl,rfl⟩
  (try(have h1m:decide (a<0)=false:=(by simp;omega)))
  (try(have h2m:decide (b<0)=false:=(by simp;omega)))
  go_wp2_with fail
  refine(size_any a _ HA.out).mono ?_
  rintro e w1 ⟨rfl,rfl⟩
  go_wp2_with fail
  refine(size_any a _ HA.out).mono ?_
  rintro e w1 ⟨rfl,rfl⟩
  generalize a.natAbs=A at hAl hu HE ⊢
  generalize b.natAbs=d at hdl hd0 hu HE ⊢
  obtain⟨N,hNe⟩:∃N,A*4294967296=N:=⟨_,rfl⟩
  rw [hNe]at hu HE
  obtain⟨hi,hhi⟩:∃hi,A/4294967296=hi:=⟨_,rfl⟩
  obtain⟨lo,hlo⟩:∃lo,N%18446744073709551616=lo:=⟨_,rfl⟩
  have eHi:(A:Int)/4294967296=(hi:Int):=by omega
  have eLo:IntKind.u64.wrap ((A:Int)*4294967296)=(lo:Int):=by rw [u64wrap];omega
  have hN:N=hi*18446744073709551616+lo:=by omega
  have hlol:lo<18446744073709551616:=by omega
  have hhil:hi≤2147483648:=by omega
  obtain⟨k1,k2⟩:=quot_two _ hi lo d hd0 hN
  have HHI:=Lib.hid hhi
  have HLO:=Lib.hid hlo
  have dz0:¬(d:Int)=0:=by omega
  have dz1:¬d=0:=by omega
  have eq0:IntKind.u64.wrap ((hi:Int)/(d:Int))=((hi/d:Nat):Int):=by
   have e:(hi:Int)/(d:Int)=((hi/d:Nat):Int):=rfl
   have:=Nat.div_le_self hi d
   rw [e,u64wrap];generalize hi/d=x at this ⊢;omega
  have er0:(hi:Int).tmod (d:Int)=((hi%d:Nat):Int):=rfl
  have hh0:hi/d≤2147483648:=Nat.le_trans (Nat.div_le_self _ _) hhil
  have hr0:hi%d<d:=Nat.mod_lt _ hd0
  generalize hi/d=h0 at eq0 k1 hh0
  generalize hi%d=r0 at er0 k1 k2 hr0
  obtain⟨Q,hQ⟩:∃Q,(r0*18446744073709551616+lo)/d=Q:=⟨_,rfl⟩
  obtain⟨R,hR⟩:∃R,(r0*18446744073709551616+lo)%d=R:=⟨_,rfl⟩
  rw [hQ]at k1
  rw [←k2,hR]at hu
  have hRd:R<d:=by rw [←hR];exact Nat.mod_lt _ hd0
  have hQl:Q<18446744073709551616:=by
   rw [←hQ,Nat.div_lt_iff_lt_mul hd0]
   have h3:(r0+1)*18446744073709551616≤d*18446744073709551616:=Nat.mul_le_mul_right _ hr0
   rw [Nat.add_mul,Nat.one_mul]at h3
   exact Nat.lt_of_lt_of_le (Nat.add_lt_add_left hlol _) (by rw [Nat.mul_comm 18446744073709551616];exact h3)
  have HQ:=Lib.hid hQ
  have HR:=Lib.hid hR
  have HK1:=Lib.hid k1
  clear hhi hlo hN hNe hQ hR k1 k2
  go_wp2_with fail
  go_region
  go_wp2_with fail
  refine(div64_any r0 lo d _ hr0 hlol (by omega)).mono ?_
  rintro e w1 ⟨rfl,nq,rfl⟩
  rw [HQ.out,HR.out]
  first
   |(first
     |(have hup:(d:Int)-(R:Int)<(R:Int):=by omega)
     |(have hup:(d:Int)-(R:Int)≤(R:Int):=by omega))
    have HAdd:=fun w=>add64_at Q 1 1 (by omega) w
    obtain⟨C,hC⟩:∃C,(Q+1)/18446744073709551616=C:=⟨_,rfl⟩
    obtain⟨L1,hL⟩:∃L1,(Q+1)%18446744073709551616=L1:=⟨_,rfl⟩
    rw [hC,hL]at HAdd
    have HW:=Lib.hid (div_carry (N/d) Q h0 C L1 HK1.out hC hL)
    have hCl:C≤1:=by omega
    have hL1:L1<18446744073709551616:=by omega
    clear hC hL hu
    rw [←HW.out]at HE
    go_wp2_with fail
    refine(bound_any _ (h0+C) L1 _ (by omega) hL1).mono ?_
    rintro e w1 ⟨rfl,hb⟩
    rw [←HE.out,←HF.out]
    have HBL:=Lib.hid (onward (B:=w.heap.size) (a:=w) (by repeat(first|exact Below.refl _ _|refine Below.setCell ?_ (by simp) _|refine below_drewN ?_ _|refine Below.drew ?_|refine Below.alloc ?_ (by simp) _)) (Nat.le_refl _) hb)
    obtain⟨r,hr⟩:∃r,fdiv a b=r:=⟨_,rfl⟩
    have HRR:=Lib.hid hr
    rw [hr]
    clear HE HF hb hr
    go_wp2_with fail
    go_ret2
    exact⟨by rw [HRR.out];rfl,HBL.out⟩
   |(first
     |(have hup:¬(d:Int)-(R:Int)≤(R:Int):=by omega)
     |(have hup:¬(d:Int)-(R:Int)<(R:Int):=by omega))
    have HW:=Lib.hid (div_plain (N/d) Q h0 HK1.out)
    rw [Nat.add_zero,←HW.out]at HE
    clear hu
    go_wp2_with fail
    refine(bound_any _ h0 Q _ (by omega) hQl).mono ?_
    rintro e w1 ⟨rfl,hb⟩
    rw [←HE.out,←HF.out]
    have HBL:=Lib.hid (onward (B:=w.heap.size) (a:=w) (by repeat(first|exact Below.refl _ _|refine Below.setCell ?_ (by simp) _|refine below_drewN ?_ _|refine Below.drew ?_|refine Below.alloc ?_ (by simp) _)) (Nat.le_refl _) hb)
    obtain⟨r,hr⟩:∃r,fdiv a b=r:=⟨_,rfl⟩
    have HRR:=Lib.hid hr
    rw [hr]
    clear HE HF hb hr
    go_wp2_with fail
    go_ret2
    exact⟨by rw [HRR.out];rfl,HBL.out⟩
theorem fixDiv_any (a b:Int) (w:World) (ha: -9223372036854775808≤a∧a≤9223372036854775807) (hb: -9223372036854775808≤b∧b≤9223372036854775807):
  Calls Tryz.prog 104 #[.int .i64 a,.int .i64 b] w fun e w'=>e=.returned (.tuple #[.int .i64 (fdiv a b).1,.bool (fdiv a b).2])∧Below w.heap.size w w':=by
 by_cases h0:b=0
 ·
  subst h0
  rcases Int.lt_trichotomy a 0 with h|h|h
  ·
   have HF:=Lib.hid (show fdiv a 0=(-9223372036854775808,true)by unfold fdiv;rw [if_pos rfl,if_neg (by omega),if_pos h])
   clear ha hb
   go_enter Tryz.func104,Tryz.ntmps104
   go_wp2_with fail
   go_ret2
   exact⟨by rw [HF.out];rfl,Below.refl _ _⟩
  ·
   subst h
   have HF:=Lib.hid (show fdiv 0 0=(0,true)by unfold fdiv;rw [if_pos rfl,if_neg (by omega),if_neg (by omega)])
   clear ha hb
   go_enter Tryz.func104,Tryz.ntmps104
   go_wp2_with fail
   go_ret2
   exact⟨by rw [HF.out];rfl,Below.refl _ _⟩
  ·
   have HF:=Lib.hid (show fdiv a 0=(9223372036854775807,true)by unfold fdiv;rw [if_pos rfl,if_pos h])
   clear ha hb
   go_enter Tryz.func104,Tryz.ntmps104
   go_wp2_with fail
   go_ret2
   exact⟨by rw [HF.out];rfl,Below.refl _ _⟩
 · exact fixDiv_n a b w h0 ha hb
end BigW
namespace BigW
open Go.RowKit Mem BigLaw
theorem fdiv_range (a b:Int):In64 (fdiv a b).1:=by
 unfold fdiv
 split
 ·
  split
  · unfold In64;omega
  · split<;>(unfold In64;omega)
 · exact stop_range _
end BigW
namespace BigW
open Go.RowKit Mem BigLaw
structure St where
 X:Int
 V:Int
 P00:Int
 P01:Int
 P11:Int
 bent:Bool
 missed:Int
def stC (s:St):Array Value:=#[.int .i64 s.X,.int .i64 s.V,.int .i64 s.P00,.int .i64 s.P01,.int .i64 s.P11,.bool s.bent,.int .i64 s.missed]
def StAt (w:World) (g:Nat) (s:St):Prop:=Blk w g 27 (stC s)
def Handd (w w':World) (g:Nat) (s:St) (r:Int×Bool) (e:Ending):Prop:=
 e=.returned (.int .i64 r.1)∧StAt w' g { s with bent:=s.bent||r.2 }∧w.grownBy w' (some g)
theorem StAt.below {w w':World} {g:Nat} {s:St} (h:StAt w g s) (hb:Below w.heap.size w w'):StAt w' g s:=Blk.below h hb (Blk.lt h)
theorem grown_one {w w':World} {g:Nat} {row:Nat} (h:w.grownBy w' (some row)) (hg:g<w.heap.size) (hne:g≠row):∀o,w'.cell? ⟨g,o,none⟩= w.cell? ⟨g,o,none⟩:=fun o=>World.cell?_of_block (h.block g hg (fun e=>hne (by injection e)))
theorem hsee_any (g:Nat) (s:St) (n:Int) (b:Bool) (w:World) (h:StAt w g s):
  Calls Tryz.prog 100 #[.agg #[.pointer (some ⟨g,0,none⟩)],.int .i64 n,.bool b] w fun e w'=>Handd w w' g s (n,b) e:=by
 obtain⟨X,V,P00,P01,P11,bent,missed⟩:=s
 have c5:=Blk.cell h 5
 have f5:=Blk.thaw h 5
 simp only [stC,List.getElem?_toArray,List.getElem?_cons_zero,List.getElem?_cons_succ]at c5
 have HB:=Lib.hid h
 have hgl:=Blk.lt h
 clear h
 cases bent<;>cases b
 all_goals
  go_enter Tryz.func100,Tryz.ntmps100
  go_wp2_with fail
  go_region
  go_wp2_with fail
  go_ret
  exact⟨rfl,((Blk.set HB.out 5 _).alloc _).drew,(grown_setCell _ _ _ _).trans (grown_of_below (((Below.refl _ _).alloc (Nat.le_refl _) _).drew))⟩
theorem hadd_any (g:Nat) (s:St) (a b:Int) (w:World) (h:StAt w g s) (ha:In64 a) (hb:In64 b):
  Calls Tryz.prog 79 #[.agg #[.pointer (some ⟨g,0,none⟩)],.int .i64 a,.int .i64 b] w fun e w'=>Handd w w' g s (fadd a b) e:=by
 have hA:Below w.heap.size w (w.alloc (.cells #[.pointer (some ⟨g,0,none⟩)] 157)).drew:=((Below.refl _ _).alloc (Nat.le_refl _) _).drew
 have HB:=Lib.hid (h.below hA)
 have hgl:=Blk.lt h
 have hs:w.heap.size+1≤(w.alloc (.cells #[.pointer (some ⟨g,0,none⟩)] 157)).drew.heap.size:=by simp
 have HAA:=Lib.hid hA
 have HA:=Lib.hid ha
 have HC:=Lib.hid hb
 clear h ha hb hA
 go_enter Tryz.func79,Tryz.ntmps79
 go_wp2_with fail
 go_region_held3 (fun w'=> w'.cell? ⟨w.heap.size,0,none⟩=some (.pointer (some ⟨g,0,none⟩))) (go_keep) (first
  |(go_at_call 102;refine(fixAdd_any a b _ HA.out HC.out).mono ?_;rintro e w1 ⟨rfl,rfl⟩)
  |(go_at_call 100;refine(hsee_any g s (stop (a+b)).1 (stop (a+b)).2 _ HB.out).mono ?_;rintro e w2 ⟨rfl,hbe,hg⟩;have hk0:=grown_one hg (g:=w.heap.size) (by omega) (by omega) 0))
 have HBE:=Lib.hid hbe
 have HG:=Lib.hid ((grown_of_below HAA.out).trans hg)
 clear hbe hg hs hk0
 go_wp2_with fail
 go_ret
 exact⟨rfl,HBE.out,HG.out⟩
theorem hsub_any (g:Nat) (s:St) (a b:Int) (w:World) (h:StAt w g s) (ha:In64 a) (hb:In64 b):
  Calls Tryz.prog 78 #[.agg #[.pointer (some ⟨g,0,none⟩)],.int .i64 a,.int .i64 b] w fun e w'=>Handd w w' g s (fsub a b) e:=by
 have hA:Below w.heap.size w (w.alloc (.cells #[.pointer (some ⟨g,0,none⟩)] 157)).drew:=((Below.refl _ _).alloc (Nat.le_refl _) _).drew
 have HB:=Lib.hid (h.below hA)
 have hgl:=Blk.lt h
 have hs:w.heap.size+1≤(w.alloc (.cells #[.pointer (some ⟨g,0,none⟩)] 157)).drew.heap.size:=by simp
 have HAA:=Lib.hid hA
 have HA:=Lib.hid ha
 have HC:=Lib.hid hb
 clear h ha hb hA
 go_enter Tryz.func78,Tryz.ntmps78
 go_wp2_with fail
 go_region_held3 (fun w'=> w'.cell? ⟨w.heap.size,0,none⟩=some (.pointer (some ⟨g,0,none⟩))) (go_keep) (first
  |(go_at_call 101;refine(fixSub_any a b _ HA.out HC.out).mono ?_;rintro e w1 ⟨rfl,rfl⟩)
  |(go_at_call 100;refine(hsee_any g s (stop (a-b)).1 (stop (a-b)).2 _ HB.out).mono ?_;rintro e w2 ⟨rfl,hbe,hg⟩;have hk0:=grown_one hg (g:=w.heap.size) (by omega) (by omega) 0))
 have HBE:=Lib.hid hbe
 have HG:=Lib.hid ((grown_of_below HAA.out).trans hg)
 clear hbe hg hs hk0
 go_wp2_with fail
 go_ret
 exact⟨rfl,HBE.out,HG.out⟩
theorem hmul_any (g:Nat) (s:St) (a b:Int) (w:World) (h:StAt w g s) (ha:In64 a) (hb:In64 b):
  Calls Tryz.prog 80 #[.agg #[.pointer (some ⟨g,0,none⟩)],.int .i64 a,.int .i64 b] w fun e w'=>Handd w w' g s (fmul a b) e:=by
 have hA:Below w.heap.size w (w.alloc (.cells #[.pointer (some ⟨g,0,none⟩)] 157)).drew:=((Below.refl _ _).alloc (Nat.le_refl _) _).drew
 have HB:=Lib.hid (h.below hA)
 have hgl:=Blk.lt h
 have hs:w.heap.size+1≤(w.alloc (.cells #[.pointer (some ⟨g,0,none⟩)] 157)).drew.heap.size:=by simp
 have HAA:=Lib.hid hA
 have HA:=Lib.hid ha
 have HC:=Lib.hid hb
 clear h ha hb hA
 go_enter Tryz.func80,Tryz.ntmps80
 go_wp2_with fail
 go_region_held3 (fun w'=> w'.cell? ⟨w.heap.size,0,none⟩=some (.pointer (some ⟨g,0,none⟩))) (go_keep) (first
  |(go_at_call 103;refine(fixMul_any a b _ HA.out HC.out).mono ?_;rintro e w1 ⟨rfl,hb1⟩;have hk0:=below_cell hb1 w.heap.size 0 (by simp);have hs:=Nat.le_trans hs hb1.size;have HB:=Lib.hid (HB.out.below hb1);have HAA:=Lib.hid (onward HAA.out (Nat.le_refl _) hb1))
  |(go_at_call 100;refine(hsee_any g s (fmul a b).1 (fmul a b).2 _ HB.out).mono ?_;rintro e w2 ⟨rfl,hbe,hg⟩;have hk0:=grown_one hg (g:=w.heap.size) (by omega) (by omega) 0))
 have HBE:=Lib.hid hbe
 have HG:=Lib.hid ((grown_of_below HAA.out).trans hg)
 clear hbe hg hs hk0
 go_wp2_with fail
 go_ret
 exact⟨rfl,HBE.out,HG.out⟩
theorem hdiv_any (g:Nat) (s:St) (a b:Int) (w:World) (h:StAt w g s) (ha:In64 a) (hb:In64 b):
  Calls Tryz.prog 81 #[.agg #[.pointer (some ⟨g,0,none⟩)],.int .i64 a,.int .i64 b] w fun e w'=>Handd w w' g s (fdiv a b) e:=by
 have hA:Below w.heap.size w (w.alloc (.cells #[.pointer (some ⟨g,0,none⟩)] 157)).drew:=((Below.refl _ _).alloc (Nat.le_refl _) _).drew
 have HB:=Lib.hid (h.below hA)
 have hgl:=Blk.lt h
 have hs:w.heap.size+1≤(w.alloc (.cells #[.pointer (some ⟨g,0,none⟩)] 157)).drew.heap.size:=by simp
 have HAA:=Lib.hid hA
 have HA:=Lib.hid ha
 have HC:=Lib.hid hb
 clear h ha hb hA
 go_enter Tryz.func81,Tryz.ntmps81
 go_wp2_with fail
 go_region_held3 (fun w'=> w'.cell? ⟨w.heap.size,0,none⟩=some (.pointer (some ⟨g,0,none⟩))) (go_keep) (first
  |(go_at_call 104;refine(fixDiv_any a b _ HA.out HC.out).mono ?_;rintro e w1 ⟨rfl,hb1⟩;have hk0:=below_cell hb1 w.heap.size 0 (by simp);have hs:=Nat.le_trans hs hb1.size;have HB:=Lib.hid (HB.out.below hb1);have HAA:=Lib.hid (onward HAA.out (Nat.le_refl _) hb1))
  |(go_at_call 100;refine(hsee_any g s (fdiv a b).1 (fdiv a b).2 _ HB.out).mono ?_;rintro e w2 ⟨rfl,hbe,hg⟩;have hk0:=grown_one hg (g:=w.heap.size) (by omega) (by omega) 0))
 have HBE:=Lib.hid hbe
 have HG:=Lib.hid ((grown_of_below HAA.out).trans hg)
 clear hbe hg hs hk0
 go_wp2_with fail
 go_ret
 exact⟨rfl,HBE.out,HG.out⟩
end BigW
namespace BigW
open Go.RowKit Mem
theorem neq_of {r g:Nat} (h:r≠g):some r≠some g:=fun e=>h (by injection e)
theorem exec_load_st {P:Program} {op:Oper} {a:Act} {w:World} (ty:TypeId) (x:Operand) (ho:op.op=.load ty x) (b:Nat) (hx:a.eval x=.pointer (some ⟨b,0,none⟩)) {t:TypeId} {cs:Array Value} (h:Blk w b t cs)
  {d:TypeDesc} (hu:P.underlying ty=some d) (hd:(match d with| .struct _| .array _ _=>true|_=>false)=true) (hi:(P.info? ty).map (·.size)=some cs.size):(execOp a.eval op).run P w=.ok (.value (.agg cs)) w:=by
 unfold execOp
 simp only [ho,hx,Instr.loadAt,Instr.sureAddr,Sem.run_bind,Sem.run_pure,Result.andThen_ok,run_loadVar_row w b t ty cs _ d h hu hd hi]
end BigW
namespace BigW
open Go.RowKit Mem BigLaw
theorem st_cells {w:World} {g:Nat} {X V P00 P01 P11:Int} {b:Bool} {m:Int} (h:StAt w g ⟨X,V,P00,P01,P11,b,m⟩):
  w.cell? ⟨g,0,none⟩=some (.int .i64 X)∧ w.cell? ⟨g,1,none⟩=some (.int .i64 V)∧ w.cell? ⟨g,2,none⟩=some (.int .i64 P00)∧ w.cell? ⟨g,3,none⟩=some (.int .i64 P01)∧ w.cell? ⟨g,4,none⟩=some (.int .i64 P11)∧ w.cell? ⟨g,5,none⟩=some (.bool b)∧ w.cell? ⟨g,6,none⟩=some (.int .i64 m):=
 ⟨(Blk.cell h 0).trans rfl,(Blk.cell h 1).trans rfl,(Blk.cell h 2).trans rfl,(Blk.cell h 3).trans rfl,(Blk.cell h 4).trans rfl,(Blk.cell h 5).trans rfl,(Blk.cell h 6).trans rfl⟩
theorem st_thaws {w:World} {g:Nat} {s:St} (h:StAt w g s):
  w.frozen? ⟨g,0,none⟩=false∧ w.frozen? ⟨g,1,none⟩=false∧ w.frozen? ⟨g,2,none⟩=false∧ w.frozen? ⟨g,3,none⟩=false∧ w.frozen? ⟨g,4,none⟩=false∧ w.frozen? ⟨g,5,none⟩=false∧ w.frozen? ⟨g,6,none⟩=false:=
 ⟨Blk.thaw h 0,Blk.thaw h 1,Blk.thaw h 2,Blk.thaw h 3,Blk.thaw h 4,Blk.thaw h 5,Blk.thaw h 6⟩
theorem one_cell {w:World} {g:Nat} {t:TypeId} {v:Value} (h:Blk w g t #[v]): w.cell? ⟨g,0,none⟩=some v:=(Blk.cell h 0).trans rfl
def predict (s:St) (dt q:Int):St:=
 let t:=fmul s.P01 dt
 let u:=fmul s.P11 dt
 let m:=fmul s.V dt
 let x:=fadd s.X m.1
 let a:=fadd s.P00 t.1
 let b:=fadd a.1 t.1
 let c:=fmul u.1 dt
 let d:=fadd b.1 c.1
 let e:=fadd s.P01 u.1
 let f:=fadd s.P11 q
 { X:=x.1,V:=s.V,P00:=d.1,P01:=e.1,P11:=f.1,bent:=s.bent||t.2||u.2||m.2||x.2||a.2||b.2||c.2||d.2||e.2||f.2,missed:=s.missed }
def update (s:St) (z r gate:Int):St×Bool:=
 let y:=fsub z s.X
 let w:=fadd s.P00 r
 let yy:=fmul y.1 y.1
 let gw:=fmul gate w.1
 if w.1≤0∨gw.1<yy.1 then({ s with missed:=IntKind.i64.wrap (s.missed+1) },false)
 else
  let k:=fdiv s.P00 w.1
  let l:=fdiv s.P01 w.1
  let m1:=fmul k.1 y.1
  let x:=fadd s.X m1.1
  let m2:=fmul l.1 y.1
  let v:=fadd s.V m2.1
  let m3:=fmul k.1 s.P00
  let p00:=fsub s.P00 m3.1
  let m4:=fmul k.1 s.P01
  let p01:=fsub s.P01 m4.1
  let m5:=fmul l.1 s.P01
  let p11:=fsub s.P11 m5.1
  ({ X:=x.1,V:=v.1,P00:=p00.1,P01:=p01.1,P11:=p11.1,bent:=s.bent||y.2||w.2||yy.2||gw.2||k.2||l.2||m1.2||x.2||m2.2||v.2||m3.2||p00.2||m4.2||p01.2||m5.2||p11.2,missed:=0 },true)
def StIn (s:St):Prop:=In64 s.X∧In64 s.V∧In64 s.P00∧In64 s.P01∧In64 s.P11
def stV (s:St):Value:=.agg (stC s)
def GaveSt (w w':World) (s:St) (e:Ending):Prop:=e=.returned (stV s)∧Below w.heap.size w w'
def GaveSt2 (w w':World) (r:St×Bool) (e:Ending):Prop:=e=.returned (.tuple #[stV r.1,.bool r.2])∧Below w.heap.size w w'
theorem predict_in {s:St} (h:StIn s) (dt q:Int):StIn (predict s dt q):=⟨fadd_range _ _,h.2.1,fadd_range _ _,fadd_range _ _,fadd_range _ _⟩
theorem update_in {s:St} (h:StIn s) (z r gate:Int):StIn (update s z r gate).1:=by
 unfold update
 dsimp only
 split
 · exact h
 · exact⟨fadd_range _ _,fadd_range _ _,fsub_range _ _,fsub_range _ _,fsub_range _ _⟩
theorem ltr {f:Int→Int→Int×Bool} (hr:∀a b,In64 (f a b).1) (a b:Int):∃y yb,RowKit.Hid (f a b=(y,yb))∧In64 y:=⟨_,_,Lib.hid rfl,hr a b⟩
theorem Hg {w w':World} {g g':Nat} {t:TypeId} {cs:Array Value} (h:RowKit.Hid (Blk w g t cs)) (hg:w.grownBy w' (some g')) (hne:g≠g'):RowKit.Hid (Blk w' g t cs):=Lib.hid (h.out.grown hg (neq_of hne))
theorem Hb {w w1 w':World} {B g:Nat} (h:RowKit.Hid (Below B w w1)) (hg:w1.grownBy w' (some g)) (hB:B≤w.heap.size) (hle:B≤g):RowKit.Hid (Below B w w'):=Lib.hid (below_grown h.out hB hg (fun x e=>by injection e with e;omega))
end BigW
end Go.Proofs.YtljpoibnkkcjdaaGreatDoor
