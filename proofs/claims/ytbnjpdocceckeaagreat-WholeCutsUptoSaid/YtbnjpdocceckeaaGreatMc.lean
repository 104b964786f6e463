/- A down: a node replaced in all rows, until there is none. Conditions: at most 8 events and 16 nodes. -/
import Derived.Test.YtbnjpdocceckeaaGreatMb
import Derived.Test.YtbnjpdocceckeaaGreatWa
import Derived.Test.YtbnjpdocceckeaaGreatMa
set_option linter.all false
open List (append_nil getElem_mem length_append length_cons length_map length_range length_set length_singleton length_take map_append map_congr_left map_id map_map mem_append mem_cons_of_mem mem_cons_self mem_singleton pairwise_map range replicate take_length take_zero)
open Int (toNat toNat_natCast)
open Nat (le_of_lt le_refl le_trans log2 lt_of_lt_of_le lt_or_ge mod_lt pow_le_pow_right pow_pos pow_succ strongRecOn testBit_or)
open Go.IntKind (wrap)
open Bool (and_eq_true or_eq_true)
namespace Go.Gg
def RF(S:Nat):Grow:=⟨((S%2^24:Nat):Int),(((S/2^24:Nat):Int),0)⟩
structure SN(S:Nat):Prop where
 ev:S%2^24<256
 nd:S/2^24<65536
variable{i S:Nat}
theorem og:(S%2^24).testBit i=(decide (i<24)&&S.testBit i):=Nat.testBit_mod_two_pow _ _ _
theorem ky:(S/2^24).testBit i=S.testBit (24+i):=by grind
variable{n:Nat}
theorem uc{x:Nat}(h:∀i,x.testBit i=true->i<n):x<2^n:=by
 refine Nat.lt_pow_two_of_testBit _ λi hi=>?_;cases hb:x.testBit i with
 | false=>rfl
 | true=>have:=h i hb;omega
theorem Ca{x:Nat}(hx:x<2^n)(h:x.testBit i=true):i<n:=by grind [Nat.testBit_lt_two_pow,lt_of_lt_of_le,pow_le_pow_right]
variable{b:Nat}
theorem SN.bit(h:SN S)(hb:S.testBit b=true):b<8\/(24<=b/\b<40):=by
 by_cases QH:b<24
 ·have:(S%2^24).testBit b=true:=by rw[og,hb,decide_eq_true QH];rfl
  exact .inl (Ca (n:=8) h.ev this)
 ·have:(S/2^24).testBit (b-24)=true:=by rw[ky,show 24+(b-24)=b by omega];exact hb
  have:=Ca (n:=16) h.nd this;omega
theorem SN.of(h:∀b,S.testBit b=true->b<8\/(24<=b/\b<40)):SN S:=by
 refine⟨uc (n:=8) λi hi=>?_,uc (n:=16) λi hi=>?_⟩;·grind [og]
 ·grind [ky]
theorem SN.or(h:SN S)(hb:b<8\/(24<=b/\b<40)):SN (S ||| 2^b):=SN.of λi hi=>by
 rw[testBit_or,or_eq_true]at hi;rcases hi with hi|hi;·exact h.bit hi
 ·grind
theorem SN.off(h:SN S)(hb:S.testBit b=true):SN (S ^^^ 2^b):=SN.of λi hi=>h.bit (xj hb i hi)
theorem SN.lt(h:SN S):S<2^40:=uc λi hi=>by have:=h.bit hi;omega
theorem mu{a:Nat}(h:∀i,a.testBit i=b.testBit i):a=b:=Nat.eq_of_testBit_eq h
variable{j:Nat}
theorem lT:(2^i:Nat).testBit j=decide (i=j):=Nat.testBit_two_pow
theorem LJ{a:Nat}(ha:a<24):(S ||| 2^a)%2^24=S%2^24 ||| 2^a/\(S ||| 2^a)/2^24=S/2^24:=by
 constructor
 ·refine mu λi=>?_
  rw[og,testBit_or,testBit_or,og,lT];by_cases e:a=i;·subst e;simp[ha]
  ·simp[e]
 ·refine mu λi=>?_
  rw[ky,ky,testBit_or,lT,decide_eq_false om,Bool.or_false]
theorem LK:(S ||| 2^(24+i))%2^24=S%2^24/\(S ||| 2^(24+i))/2^24=S/2^24 ||| 2^i:=by
 constructor
 ·refine mu λj=>?_
  rw[og,og,testBit_or,lT];by_cases e:j<24;·grind
  ·simp[e]
 ·refine mu λj=>?_
  rw[ky,testBit_or,testBit_or,ky,lT,lT];congr 1;exact decide_eq_decide.2 om
theorem MU(hb:S.testBit (24+i)=true):(S ^^^ 2^(24+i))%2^24=S%2^24/\(S ^^^ 2^(24+i))/2^24=gI (λv=>(S/2^24).testBit v && !(2^i:Nat).testBit v) 62\/62<=i\/2^62<=S/2^24:=by
 by_cases h1:62<=i;·exact .inr (.inl h1)
 by_cases h2:2^62<=S/2^24;·exact .inr (.inr h2)
 refine .inl ⟨mu λj=>?_,mu λj=>?_⟩
 ·grind [og]
 ·rw[ky,qm hb,QS,ky,lT];by_cases e:j<62;·grind
  ·have:(S/2^24).testBit j=false:=Nat.testBit_lt_two_pow (lt_of_lt_of_le (Nat.lt_of_not_le h2) (pow_le_pow_right (by decide) om));rw[ky]at this;rw[this,decide_eq_false e];simp
theorem orU{a:Nat}(ha:a<2^62)(hb:b<2^62):bits .or .u64 (a:Int) (b:Int)=((a ||| b:Nat):Int):=by show IntKind.u64.wrap (((BitVec.ofInt 64 (a:Int)) ||| (BitVec.ofInt 64 (b:Int))).toNat:Int)=_;rw[BitVec.toNat_or,dp ha,dp hb];have:=Nat.or_lt_two_pow ha hb;rw[F5]at this;exact Qj om om
theorem P6{a:Nat}(ha:a<2^62)(hb:b<2^62):bits .and .u64 (a:Int) (b:Int)=((a &&& b:Nat):Int):=by show IntKind.u64.wrap (((BitVec.ofInt 64 (a:Int)) &&& (BitVec.ofInt 64 (b:Int))).toNat:Int)=_;rw[BitVec.toNat_and,dp ha,dp hb];have:=Nat.and_lt_two_pow a hb;rw[F5]at this;exact Qj om om
theorem yA{a:Nat}(h:a<65536):a<2^62:=Nat.lt_trans h (by decide)
theorem Ij(h:i<16):2^i<65536:=lt_of_lt_of_le (Nat.pow_lt_pow_right (by decide) h) (by decide)
theorem Co(h:i<16):wrap .u64 (1*2^(toNat (i:Int)))=((2^i:Nat):Int):=by have:=Ij h;rw[rl om,toNat_natCast];generalize 2^i=p at this ⊢;exact Qj om om
theorem JS(h:i<16):Int.tdiv (i:Int) 64=0:=by grind
theorem Mw(h:i<16):Int.tmod (i:Int) 64=(i:Int):=by grind
variable{l:List Nat}{a:Int}{y:Nat}
section
variable{f:GFormula}
theorem EC(hV:f.Y<=8)(h0:0<=a)(h:a<f.Y+16):Tr f a<8\/(24<=Tr f a/\Tr f a<40):=by unfold Tr;split<;>omega
theorem Be(hS:SN S)(hV0:0<=f.Y)(hV:f.Y<=8)(h0:0<=a)(h:a<f.Y+16){Q:Grow->Prop}(hQ:Q (RF (S ||| 2^Tr f a))):dQ (RF S) f a Q:=by
 have h1:=hS.ev;have h2:=hS.nd;refine Qb (λQH=>?_) (λTV=>?_)
 ·obtain⟨i,rfl⟩:=Int.eq_ofNat_of_zero_le h0;have hp:=km (show i<8 by omega);rw[rl h0,toNat_natCast];refine⟨⟨om,xR hp⟩,?_⟩;rw[Tr,if_pos QH,toNat_natCast,RF,(LJ om).1,(LJ om).2]at hQ;rw[show bits .or .i64 (RF S).events ((2^i:Nat):Int)=((S%2^24 ||| 2^i:Nat):Int)from mg (oF h1) (oF hp)];exact hQ
 ·obtain⟨i,hi⟩:=Int.eq_ofNat_of_zero_le (show 0<=a-f.Y by omega);have W4:i<16:=om;have hp:=Ij W4;rw[hi,JS W4,Mw W4];refine⟨Qo,Qo,aB (λ_=>⟨om,?_⟩) (λhc=>by cases hc)⟩;rw[Tr,if_neg TV,hi,toNat_natCast,RF,LK.1,LK.2]at hQ;rw[Co W4,show bits .or .u64 (RF S).nodes.1 ((2^i:Nat):Int)=((S/2^24 ||| 2^i:Nat):Int)from orU (yA h2) (yA hp)];exact hQ
theorem Gb(hS:SN S)(hi:i<16)(hb:S.testBit (24+i)=true){Q:Grow->Prop}(hQ:Q (RF (S ^^^ 2^(24+i)))):fj (RF S) (i:Int) Q:=by
 have h2:=hS.nd;have hp:=Ij hi;unfold fj;rw[JS hi,Mw hi];refine⟨Qo,aB (λ_=>⟨om,?_⟩) (λhc=>by cases hc)⟩;rcases MU hb with⟨e1,e2⟩|e|e;·rw[RF,e1,e2]at hQ;rw[Co hi,show bits .andNot .u64 (RF S).nodes.1 ((2^i:Nat):Int)=_ from anU (yA h2) (yA hp)];exact hQ
 ·omega
 ·omega
theorem OI(hS:SN S)(hi:i<16){Q:Bool->Prop}(hQ:Q (S.testBit (24+i))):gP (RF S) (i:Int) Q:=by
 have h2:=hS.nd;unfold gP;rw[JS hi,Mw hi];refine⟨Qo,aB (λ_=>⟨om,?_⟩) (λhc=>by cases hc)⟩;have e:(RF S).nodes.1/2^(toNat (i:Int))=((S/2^24/2^i:Nat):Int):=by grind [RF]
 have hle:=Nat.div_le_self (S/2^24) (2^i);rw[e,show(1:Int)=((1:Nat):Int)from rfl,P6 (yA om) (by decide),Nat.and_one_is_mod];rw[show((((S/2^24/2^i%2:Nat):Int))==((1:Nat):Int))=S.testBit (24+i)from ?_];·exact hQ
 ·grind
theorem Gh{T:Nat}:fN S T↔fN (S%2^24) (T%2^24)/\fN (S/2^24) (T/2^24):=by
 constructor
 ·refine λh=>⟨λi hi=>?_,λi hi=>?_⟩;·rw[og,and_eq_true]at hi ⊢;exact⟨hi.1,h i hi.2⟩
  ·rw[ky]at hi ⊢;exact h _ hi
 ·rintro⟨h1,h2⟩ i hi;by_cases e:i<24;·have:=h1 i (by rw[og,hi,decide_eq_true e];rfl);rw[og,and_eq_true]at this;exact this.2
  ·have:=h2 (i-24) (by rw[ky,show 24+(i-24)=i by omega];exact hi);rwa[ky,show 24+(i-24)=i by omega]at this
theorem MO{T:Nat}(hS:SN S)(hT:SN T){Q:Bool->Prop}(hQ:Q (decide (S &&& T=S))):gk (RF S) (RF T) Q:=by
 unfold gk;have e1:(bits .andNot .i64 (RF S).events (RF T).events==0)=decide (S%2^24 &&& T%2^24=S%2^24):=Dv (oF hS.ev) (oF hT.ev);have e2:(bits .andNot .u64 (RF S).nodes.1 (RF T).nodes.1==0)=decide (S/2^24 &&& T/2^24=S/2^24):=Jm (yA hS.nd) (yA hT.nd);have e3:(bits .andNot .u64 (RF S).nodes.2 (RF T).nodes.2==0)=true:=by show(bits .andNot .u64 0 0==0)=true;decide
 rw[e1,e2,e3];have key:(S &&& T=S)↔(S%2^24 &&& T%2^24=S%2^24)/\(S/2^24 &&& T/2^24=S/2^24):=by rw[<-fB,<-fB,<-fB];exact Gh
 refine Qb (λh1=>Qb (λh2=>?_) (λh2=>?_)) (λh1=>?_)
 ·simp_all
 ·simp_all
 ·simp_all
def ocN(x:Nat):Nat:=
 let x1:=((x/2) &&& 6148914691236517205)+(x &&& 6148914691236517205);let x2:=((x1/4) &&& 3689348814741910323)+(x1 &&& 3689348814741910323);let x3:=((x2/16)+x2) &&& 1085102592571150095;let x4:=x3+x3/256;let x5:=x4+x4/65536
 (x5+x5/4294967296) &&& 127
theorem Ku:(range 256).all (λh=>(range 256).all λl=>ocN (256*h+l)==dR 8 l+dR 8 h)=true:=by decide +kernel
theorem s_{a b:Nat}:∀n,(∀i,i<n->a.testBit i=b.testBit i)->dR n a=dR n b
 | 0,_=>rfl
 | n+1,h=>by rw[dR,dR,s_ n (λi hi=>h i om),h n om]
theorem tP{S j:Nat}:∀n,dR (j+n) S=dR j S+dR n (S/2^j)
 | 0=>by simp[dR]
 | n+1=>by rw[show j+(n+1)=(j+n)+1 from rfl,dR,dR,tP n,Nat.testBit_div_two_pow,Nat.add_comm n j];omega
theorem Px{x:Nat}(hx:x<65536):ocE (x:Int)=(ocN x:Int):=by
 have w:∀ {y:Nat},y<2^62->wrap .u64 (y:Int)=(y:Int):=λ{y} hy=>by grind [Qj]
 have sh:∀(y:Nat) (c:Nat),((y:Int)/2^(toNat (c:Int)))=((y/2^c:Nat):Int):=λy c=>by rw[toNat_natCast];simp
 have le:∀a b:Nat,a &&& b<=a:=λa b=>Nat.and_le_left;have m0:(6148914691236517205:Int)=((6148914691236517205:Nat):Int):=rfl;have m1:(3689348814741910323:Int)=((3689348814741910323:Nat):Int):=rfl;have m2:(1085102592571150095:Int)=((1085102592571150095:Nat):Int):=rfl;have au:∀(a c:Nat),a<2^62->c<2^63->bits .and .u64 (a:Int) (c:Int)=((a &&& c:Nat):Int):=λa c ha hc=>by show IntKind.u64.wrap (((BitVec.ofInt 64 (a:Int)) &&& (BitVec.ofInt 64 (c:Int))).toNat:Int)=_;rw[BitVec.toNat_and,dp ha,BitVec.toNat_ofInt];have e:(((c:Int)%((2^64:Nat):Int))).toNat=c:=om;rw[e];exact w (Nat.lt_of_le_of_lt (le a c) ha)
 have k1:x/2<=x:=Nat.div_le_self _ _;have b62:=F5;unfold ocE;try dsimp only
 rw[show(toNat 1)=toNat ((1:Nat):Int)from rfl,show(toNat 2)=toNat ((2:Nat):Int)from rfl,show(toNat 4)=toNat ((4:Nat):Int)from rfl,show(toNat 8)=toNat ((8:Nat):Int)from rfl,show(toNat 16)=toNat ((16:Nat):Int)from rfl,show(toNat 32)=toNat ((32:Nat):Int)from rfl];rw[sh x 1,m0,au _ _ om (by decide),au _ _ om (by decide)];have l1:=le (x/2^1) 6148914691236517205;have l2:=le x 6148914691236517205;generalize hx1:(x/2^1 &&& 6148914691236517205)+(x &&& 6148914691236517205)=x1;have b1:x1<=131072:=om;rw[show(((x/2^1 &&& 6148914691236517205:Nat):Int)+((x &&& 6148914691236517205:Nat):Int))=(x1:Int)by omega,w om,sh x1 2,m1,au _ _ om (by decide),au _ _ om (by decide)];have l3:=le (x1/2^2) 3689348814741910323;have l4:=le x1 3689348814741910323;generalize V7:(x1/2^2 &&& 3689348814741910323)+(x1 &&& 3689348814741910323)=x2;have b2:x2<=262144:=om;rw[show(((x1/2^2 &&& 3689348814741910323:Nat):Int)+((x1 &&& 3689348814741910323:Nat):Int))=(x2:Int)by omega,w om,sh x2 4];rw[show((x2/2^4:Nat):Int)+(x2:Int)=((x2/2^4+x2:Nat):Int)by omega,w om,m2,au _ _ om (by decide)];have l5:=le (x2/2^4+x2) 1085102592571150095;generalize Z0:(x2/2^4+x2) &&& 1085102592571150095=x3;have b3:x3<=524288:=om;rw[sh x3 8,show(x3:Int)+((x3/2^8:Nat):Int)=((x3+x3/2^8:Nat):Int)by omega,w om];generalize hx4:x3+x3/2^8=x4;have b4:x4<=1048576:=om;rw[sh x4 16,show(x4:Int)+((x4/2^16:Nat):Int)=((x4+x4/2^16:Nat):Int)by omega,w om];generalize ZZ:x4+x4/2^16=x5;have b5:x5<=2097152:=om;rw[sh x5 32,show(x5:Int)+((x5/2^32:Nat):Int)=((x5+x5/2^32:Nat):Int)by omega,w om,RX om om,show(127:Int)=((127:Nat):Int)from rfl,Dr om (by decide)];unfold ocN;try dsimp only
 simp only[Nat.reducePow]at hx1 V7 Z0 hx4 ZZ;rw[hx1,V7,Z0,hx4,ZZ]
theorem Om{x:Nat}(hx:x<65536):ocE (x:Int)=(dR 16 x:Int):=by
 rw[Px hx];have h:=List.all_eq_true.1 Ku (x/256) (List.mem_range.2 om);have h2:=List.all_eq_true.1 h (x%256) (List.mem_range.2 om);rw[beq_iff_eq,show 256*(x/256)+x%256=x by omega]at h2;have e:=tP (S:=x) (j:=8) 8;have e2:dR 8 (x%256)=dR 8 x:=s_ 8 λi hi=>by rw[show(256:Nat)=2^8 from rfl,Nat.testBit_mod_two_pow,decide_eq_true hi,Bool.true_and]
 rw[h2,e2];congr 1;exact e.symm
def szN(S:Nat):Nat:=dR 40 S
theorem ME:szN S=dR 24 (S%2^24)+dR 16 (S/2^24):=by rw[szN,show(40:Nat)=24+16 from rfl,tP];congr 1;exact s_ 24 λi hi=>by grind [og]
theorem yd(n a:Nat):dR n a<=n:=by
 induction n with
 | zero=>exact le_refl _
 | succ n ih=>grind [dR]
theorem HZ(hS:SN S){Q:Int->Prop}(hQ:Q (szN S:Int)):gi (RF S) Q:=by have n1:=yd 24 (S%2^24);have n2:=yd 16 (S/2^24);rw[ME]at hQ;refine⟨((dR 24 (S%2^24):Nat):Int),Lu hS.ev rfl,((dR 16 (S/2^24):Nat):Int),MV (by rw[show(RF S).nodes.1=((S/2^24:Nat):Int)from rfl,Om hS.nd]),Qo,0,MV (show ocE 0=0 by decide +kernel),Qo,?_⟩;rw[Int.add_zero];simpa using hQ
def MS(r:Grow):Prop:=∃S,SN S/\r=RF S
def unR(r:Grow):Nat:=r.events.toNat+2^24*r.nodes.1.toNat
theorem xC(S:Nat):unR (RF S)=S:=by show(((S%2^24:Nat):Int)).toNat+2^24*(((S/2^24:Nat):Int)).toNat=S;rw[toNat_natCast,toNat_natCast];exact Nat.mod_add_div S (2^24)
theorem Oy:Keys MS (λr=>(szN (unR r):Int)):=⟨λa b ha hb Q hQ=>by
 obtain⟨S,hS,rfl⟩:=ha;obtain⟨T,hT,rfl⟩:=hb;rw[xC,xC]at hQ;have n1:szN S<=40:=yd 40 S;have n2:szN T<=40:=yd 40 T;exact⟨_,HZ hS rfl,_,HZ hT rfl,Qo,hQ⟩⟩
def vp(y:Nat):Nat:=if y=0 then 0 else log2 y+1
theorem KK(h:y≠0):y.testBit (log2 y)=true:=by
 have h1:=Nat.log2_self_le h;have h2:=Nat.lt_log2_self (n:=y);rw[Nat.testBit_eq_decide_div_mod_eq,decide_eq_true_eq];rw[pow_succ]at h2;have h3:y/2^log2 y=1:=by refine Nat.div_eq_of_lt_le om om
 rw[h3]
theorem KM{x:Nat}(h:256<=x):log2 x=log2 (x/256)+8:=by
 have h0:x≠0:=om;have h1:x/256≠0:=om;have a:=Nat.log2_self_le h1;have b:=Nat.lt_log2_self (n:=x/256);refine(Nat.log2_eq_iff h0).2 ⟨?_,?_⟩;·rw[Nat.pow_add];omega
 ·grind
theorem FM(h:y<256):vp y<=8:=by
 unfold vp;split;·omega
 ·rename_i h0;have:=(Nat.log2_lt h0).2 (show y<2^8 from h);omega
theorem FL:∀y:Nat,y<256->pq dI y=(vp y:Int):=by decide +kernel
theorem Ow{x:Nat}(hx:x<65536){Q:Int->Prop}(hQ:Q (vp x:Int)):il (x:Int) Q:=by
 have RP:(dI.size:Int)=256:=by decide +kernel
 refine ol (Qb (λhc=>absurd hc om) (λ_=>ol (Qb (λhc=>absurd hc om) (λ_=>ol (Qb (λhc=>?_) (λhc=>?_))))))
 ·have e:((x:Int)/2^(toNat 8))=((x/256:Nat):Int):=by rw[show(2:Int)^(toNat 8)=256 from rfl];omega
  dsimp only;rw[e];have hw:wrap .u8 ((x/256:Nat):Int)=((x/256:Nat):Int):=by rw[wrap_u8];omega
  have hL:vp x=vp (x/256)+8:=by grind [vp,KM]
  have hle:vp (x/256)<=8:=FM om;rw[hw,toNat_natCast,FL _ om,RX om om];refine⟨Qo,by rw[RP];omega,Qo,k_ ?_⟩;rw[hL]at hQ;rw[show((0:Int)+8)+((vp (x/256):Nat):Int)=((vp (x/256)+8:Nat):Int)by omega];exact hQ
 ·dsimp only;have hw:wrap .u8 (x:Int)=(x:Int):=by rw[wrap_u8];omega
  have hle:vp x<=8:=FM om;rw[hw,toNat_natCast,FL _ om,RX om om];refine⟨by rw[RP];omega,Qo,k_ ?_⟩;rw[Int.zero_add];exact hQ
structure GrN(l:List Nat)(out:Int):Prop where
 lo : -1<=out/\out<16
 has:0<=out->∃r,r∈l/\r.testBit (24+out.toNat)=true
 max:∀r,r∈l->∀j:Nat,out<j->r.testBit (24+j)=false
theorem yu(h:i<l.length):P9 (l.map RF) (i:Int)=RF l[i]:=by grind [uI]
theorem Es(hl:l.length<=100000)(hr:∀r,r∈l->SN r){Q:Int->Prop}(hQ:∀out,GrN l out->Q out):jB (l.map RF) Q:=by
 have hn:((l.map RF).length:Int)=(l.length:Int):=by rw[length_map]
 refine bu (n:=l.length) (λi y=>y.2=(i:Int)/\GrN (l.take i) y.1) (λy=>y.2) 0 (λi y hy=>by rw[hy.1];omega) ⟨rfl,⟨by decide,by decide⟩,λh=>absurd h (by decide),λr Vk=>absurd Vk Qy⟩ ?_ ?_
 ·rintro i ⟨out,x⟩ next hi ⟨hx,hG⟩ Q6
  dsimp only at hx hG;subst hx;have hR:=hr _ (getElem_mem hi);have hnd:=hR.nd;obtain⟨g1,g2⟩:=hG.lo;refine Qb (λ_=>⟨by rw[hn];omega,?_⟩) (λhc=>absurd (by rw[hn];omega) hc);rw[yu hi];have none_:(l[i])/2^24=0->next (out,(i:Int)+1):=λh0=>Q6 _ ⟨by (try dsimp only);omega,hG.lo,λh=>by
    obtain⟨r,h1,h2⟩:=hG.has h;exact⟨r,by rw[fS hi];exact List.mem_append_left _ h1,h2⟩,λr h1 j hj=>by
    rw[fS hi,mem_append,mem_singleton]at h1;rcases h1 with h1|rfl;·exact hG.max r h1 j hj
    ·rw[<-ky,h0,Nat.zero_testBit]⟩
  refine⟨λy=>y=1\/y=0\/(y = -1/\(l[i])/2^24=0),λy=>(y+1).toNat,.inl rfl,?_⟩;rintro y hy;refine Qb (λhc=>?_) (λhc=>?_)
  ·refine bk (λh0=>?_) (λh0=>bk (λh1=>?_) (λh1=>om))
   ·subst h0;refine iY (λQI=>?_) (λheq=>?_)
    ·have adN:l[i]/2^24≠0:=λh=>QI (by show(((l[i]/2^24:Nat)):Int)=0;omega);have hL:vp (l[i]/2^24)=log2 (l[i]/2^24)+1:=by rw[vp,if_neg adN]
     have amr:log2 (l[i]/2^24)<16:=(Nat.log2_lt adN).2 hnd;refine⟨Qo,Ow hnd ⟨Qo,Qo,Qo,Q6 _ ?_⟩⟩;rw[hL,show(64*0+((log2 (l[i]/2^24)+1:Nat):Int))-1=((log2 (l[i]/2^24):Nat):Int)by omega];have hb:(l[i]).testBit (24+log2 (l[i]/2^24))=true:=by grind [KK]
     have hm:∀j,log2 (l[i]/2^24)<j->(l[i]).testBit (24+j)=false:=λj hj=>by rw[<-ky];exact Nat.testBit_lt_two_pow (lt_of_lt_of_le (Nat.lt_log2_self) (pow_le_pow_right (by decide) hj))
     refine⟨by (try dsimp only);omega,⟨by (try dsimp only);omega,by (try dsimp only);omega⟩,λh=>?_,λr h1 j hj=>?_⟩
     ·try dsimp only
      rcases Int.le_total out ((log2 (l[i]/2^24):Nat):Int)with h2|h2;·grind [fS,toNat_natCast]
      ·rw[Int.max_eq_left h2];obtain⟨r,h3,h4⟩:=hG.has om;exact⟨r,by rw[fS hi];exact List.mem_append_left _ h3,h4⟩
     ·dsimp only at hj;rw[fS hi,mem_append,mem_singleton]at h1;rcases h1 with h1|rfl;·exact hG.max r h1 j om
      ·exact hm j om
    ·have h0:l[i]/2^24=0:=by have:(((l[i]/2^24:Nat)):Int)=0:=heq;omega
     exact⟨Qo,.inr (.inr ⟨rfl,h0⟩),by decide⟩
   ·subst h1;refine iY (λQI=>absurd rfl QI) (λ_=>⟨Qo,.inr (.inl rfl),by decide⟩)
  ·grind [Qe]
 ·grind [Qb]
end
variable{Q:List Int->Option Int->Prop}{s t:Nat}{u out:List Nat}
section
variable{f:GFormula}
theorem Kg{e:List Grow}(h:∀x∈e,MS x):e=(e.map unR).map RF/\∀r∈e.map unR,SN r:=by
 constructor
 ·rw[map_map];conv=>lhs;rw[<-map_id e]
  exact map_congr_left λx hx=>by obtain⟨S,_,rfl⟩:=h x hx;simp only[id,Function.comp_apply,xC]
 ·intro r hr;obtain⟨x,hx,rfl⟩:=List.mem_map.1 hr;obtain⟨S,hS,rfl⟩:=h x hx;rw[xC];exact hS
theorem Mu(l:List Nat):(l.map RF).map unR=l:=by
 rw[map_map];conv=>rhs;rw[<-map_id l]
 exact map_congr_left λx _=>xC x
theorem Ju(hl:out.length<=100000)(hb:∀t∈out,SN t)(hs:SN s){Q:Int->Prop}(h:∀x:Int,(0<=x↔Rh out s)->Q x):bx (out.map RF) (RF s) Q:=by
 unfold bx;rw[show((out.map RF).length:Int)=((out.length:Nat):Int)by rw[length_map]];refine vS (λi=>∃h:i<out.length,fN out[i] s) om (λi next hi hI hn=>?_) (λhI=>?_)
 ·refine⟨om,?_⟩;rw[yu hi];refine MO (hb _ (getElem_mem hi)) hs (Qb (λhc=>?_) (λhc=>hn λ⟨_,Sw⟩=>hc (fB.1 Sw)));exact h _ ⟨λ_=>⟨_,getElem_mem hi,fB.2 hc⟩,λ_=>om⟩
 ·refine h _ ⟨λhc=>absurd hc (by decide),λ⟨t,ht,hc⟩=>?_⟩
  obtain⟨i,hi,rfl⟩:=List.getElem_of_mem ht;exact absurd ⟨hi,hc⟩ (hI i hi)
theorem DE(hl:out.length<=100000)(hb:∀t∈out,SN t)(hs:SN s){Q:Bool->Prop}(h:Q (out.any λt=>decide (t &&& s=t))):bM (out.map RF) (RF s) Q:=Ju hl hb hs λx hx=>by grind [xu]
theorem Jv{l:List Grow}(hl:l.length<=100000){Q:List Grow->Prop}(h:Q l):bR l Q:=λb hb=>aB (λhc=>by rw[hb hc]at h;exact h) (λ_=>⟨by simp;omega,by simpa using h⟩)
theorem KR(hl:l.length<=50000)(hr:∀r∈l,SN r){Q:List Grow->Prop}(hQ:∀m:List Nat,y_ m->m.Nodup->(∀s,Rh m s↔Rh l s)->(∀r∈m,r∈l)->m.length<=l.length->Q (m.map RF)):mH (l.map RF) Q:=by
 refine Jv (by rw[length_map];omega) (Ce Oy (by rw[length_map];exact hl) (λx hx=>?_) λe hp hs=>⟨hp.length_eq,?_⟩);·obtain⟨r,h1,rfl⟩:=List.mem_map.1 hx;exact⟨r,hr r h1,rfl⟩
 have QT:∀x∈e,MS x:=λx hx=>by obtain⟨r,h1,rfl⟩:=List.mem_map.1 (hp.mem_iff.1 hx);exact⟨r,hr r h1,rfl⟩
 obtain⟨he,WZ⟩:=Kg QT;have hpm:(e.map unR).Perm l:=by grind [Mu]
 generalize hm:e.map unR=m at he WZ hpm;subst he;have UX:m.length=l.length:=hpm.length_eq;have Un:m.Pairwise (λa b=>dR 40 a<=dR 40 b):=by rw[List.pairwise_iff_getElem];intro i j hi hj Sv;have:=hs (i:Int) (j:Int) om om (by rw[length_map];omega);rw[yu hi,yu hj]at this;dsimp only at this;rw[xC,xC]at this;exact Int.ofNat_le.1 this
 have TL:((m.map RF).length:Int)=(m.length:Int):=by rw[length_map]
 have hn:((l.map RF).length:Int)=(m.length:Int):=by rw[length_map];omega
 refine gB (n:=m.length) (λi=>((i:Int),(nu (m.take i)).map RF)) (λy=>y.1) 0 (λi=>by (try dsimp only);omega) (by rw[take_zero];rfl) ?_ ?_
 ·intro i next hi Q6
  have WY:=ko (m.take i);have hmi:∀t∈nu (m.take i),SN t:=λt ht=>WZ t (List.mem_of_mem_take (WY.subset ht));have hle:(nu (m.take i)).length<=m.length:=le_trans WY.length_le (by rw[length_take];omega);refine Qb (λ_=>⟨om,?_⟩) (λhc=>absurd (by (try dsimp only);omega) hc);rw[yu hi];rw[ub hi]at Q6;refine DE om hmi (WZ _ (getElem_mem hi)) ⟨λhc=>?_,λhc=>?_⟩
  ·have WG:¬(nu (m.take i)).any (λt=>decide (t &&& m[i]=t))=true:=by simpa using hc
   rw[BN,if_neg WG,map_append]at Q6;refine⟨by rw[length_append,length_map];simp;omega,Qo,?_⟩;simpa using Q6
  ·grind [BN,Qe]
 ·intro next
  refine Qb (λhc=>absurd hc (by (try dsimp only);omega)) (λ_=>?_)
  try dsimp only
  rw[take_length];obtain⟨h1,h2,h3⟩:=AA (z:=40) m Un (λt ht=>(WZ t ht).lt);exact hQ _ h1 h2 (λs=>(h3 s).trans (nI λt=>hpm.mem_iff)) (λr Vk=>hpm.mem_iff.1 ((ko m).subset Vk)) (by rw[<-UX];exact(ko m).length_le)
structure S8(u l v:List Nat):Prop where
 eq:v.length<=4096->v=u++l
 le:v.length<=u.length+l.length
 cap:v.length<=4097
theorem S8.refl(h:u.length<=4097):S8 u [] u:=⟨λ_=>(append_nil u).symm,by simp,h⟩
theorem S8.trans{v m w:List Nat}(h:S8 u l v)(k:S8 v m w):S8 u (l++m) w:=⟨λhw=>by
  have e:=k.eq hw;have:v.length<=4096:=by have:=congrArg List.length e;rw[length_append]at this;omega
  rw[e,h.eq this,List.append_assoc],by have:=h.le;have:=k.le;rw[length_append];omega,k.cap⟩
theorem F7{r:Nat}(hu:u.length<=4097){Q:List Grow->Prop}(hQ:∀v,S8 u [r] v->Q (v.map RF)):co (RF r) (u.map RF) Q:=by
 refine Qb (λhc=>?_) (λhc=>?_)
 ·rw[length_map]at hc;refine⟨by rw[length_append,length_map];simp;omega,?_⟩;have:=hQ (u++[r]) ⟨λ_=>rfl,by rw[length_append];exact le_refl _,by rw[length_append,length_singleton];omega⟩;rwa[map_append]at this
 ·rw[length_map]at hc;exact hQ u ⟨λh=>om,om,hu⟩
theorem Od(h:4096<u.length)(hc:u.length<=4097):S8 u l u:=⟨λh2=>om,om,hc⟩
theorem yU(hV0:0<=f.Y)(hV:f.Y<=8):∀(args:List Int) (k r fu:Nat) (u:List Nat),args.length<fu->args.length<=16->k<=16->(∀a∈args,0<=a/\a<f.Y+16)->SN r->u.length<=4097->∃v,S8 u (sB (args.map (Tr f)) k r) v/\∀Q:List Grow->Prop,Q (v.map RF)->bq fu f (RF r) args (k:Int) (u.map RF) Q
 | _,_,_,0,_,h,_,_,_,_,_=>om
 | args,k,r,fu+1,u,UN,Yj,ahg,ha,hr,hu=>by
  have XY:((u.map RF).length:Int)=(u.length:Int):=by rw[length_map]
  by_cases h1:4096<u.length;·refine⟨u,Od h1 hu,λQ hQ=>?_⟩;rw[bq];exact Qb (λ_=>hQ) (λhc=>absurd om hc)
  by_cases h2:args.length<k
  ·refine⟨u,?_,λQ hQ=>?_⟩;·grind [yV,S8.refl]
   ·grind [bq,Qb]
  by_cases h3:k=0
  ·subst h3;refine⟨u++[r],?_,λQ hQ=>?_⟩;·rw[sf];exact⟨λ_=>rfl,by rw[length_append];exact le_refl _,by rw[length_append,length_singleton];omega⟩
   ·rw[bq];refine Qb (λ_=>absurd om h1) (λ_=>Qb (λhc=>absurd hc om) (λ_=>bk (λ_=>?_) (λhc=>absurd rfl hc)));refine Qb (λ_=>⟨by rw[length_append,length_map];simp;omega,?_⟩) (λhc=>absurd om hc);rw[map_append]at hQ;exact hQ
  obtain⟨k,rfl⟩:∃k',k=k'+1:=⟨k-1,om⟩;match args,UN,Yj,ha,h2 with
  | [],_,_,_,h2=>simp at h2
  | a::as,UN,Yj,ha,h2=>
   simp only[length_cons]at UN Yj h2;have ha0:=ha a mem_cons_self;obtain⟨v1,g1,p1⟩:=yU hV0 hV as k (r ||| 2^Tr f a) fu u om om om (λb hb=>ha b (mem_cons_of_mem _ hb)) (hr.or (EC hV ha0.1 ha0.2)) hu;obtain⟨v2,g2,p2⟩:=yU hV0 hV as (k+1) r fu v1 om om ahg (λb hb=>ha b (mem_cons_of_mem _ hb)) hr g1.cap;refine⟨v2,?_,λQ hQ=>?_⟩;·rw[List.map_cons,sB];exact g1.trans g2
   ·rw[bq];have e0:P9 (a::as) 0=a:=rfl;have e1:fV (a::as) 1 ((a::as).length:Int)=as:=by simp[fV]
    rw[e0,e1,show(((k+1:Nat):Int)-1)=(k:Int)by omega];refine Qb (λ_=>absurd om h1) (λ_=>Qb (λhc=>absurd hc (by simp only[length_cons];omega)) (λ_=>bk (λhc=>om) (λ_=>?_)))
    exact⟨by simp only[length_cons];omega,_,Be hr hV0 hV ha0.1 ha0.2 rfl,by simp only[length_cons];omega,Qo,_,p1 _ rfl,by simp only[length_cons];omega,_,p2 _ rfl,hQ⟩
theorem Oj(hV0:0<=f.Y)(hV:f.Y<=8){args:List Int}{r:Nat}(ha:∀a∈args,0<=a/\a<f.Y+16)(hr:SN r):SN (Dw (args.map (Tr f)) r):=by
 induction args generalizing r with
 | nil=>exact hr
 | cons a as ih=>
  have h0:=ha a mem_cons_self;exact ih (r:=r ||| 2^Tr f a) (λb hb=>ha b (mem_cons_of_mem _ hb)) (hr.or (EC hV h0.1 h0.2))
theorem IZ(g:FG f)(hV:f.Y<=8)(hN:f.N.length<=16)(ht:t<f.N.length)(k1:(P9 f.N (t:Int)).U≠1)(k5:(P9 f.N (t:Int)).U≠5)(hS:SN S)(hb:S.testBit (24+t)=true)(hu:u.length<=4097){Q:List Grow->Prop}(hQ:∀v,S8 u (BT f t (S ^^^ 2^(24+t))) v->Q (v.map RF)):fz f (RF S) (t:Int) (u.map RF) Q:=by
 have v0:=g.v0;have N:=dq (g.node t ht);have n16:=N.len;have hr:=hS.off hb;have ha:∀a∈(P9 f.N (t:Int)).Z,0<=a/\a<f.Y+16:=λa h=>by have:=qy g ht a h;omega
 obtain⟨kc,kv⟩:=Ed g ht;refine⟨om,Gb hS om hb ?_⟩;generalize S ^^^ 2^(24+t)=r at hr hQ;unfold BT at hQ;dsimp only at hQ;refine bk (λh0=>?_) (λh0=>bk (λh2=>?_) (λh2=>bk (λh3=>?_) (λh3=>?_)))
 ·rw[if_pos h0]at hQ;refine bk (λh1=>?_) (λh1=>?_)
  ·grind [F7]
  ·grind [S8.refl]
 ·rw[if_neg h0,if_pos h2]at hQ;refine bu (n:=(P9 f.N (t:Int)).Z.length) (λj y=>y.1=(j:Int)/\y.2=RF (Dw (((P9 f.N (t:Int)).Z.take j).map (Tr f)) r)) (λy=>y.1) 0 (λj y hy=>by rw[hy.1];omega) ⟨rfl,by rw[take_zero];rfl⟩ ?_ ?_;·grind [Qb,Be,Oj,List.mem_of_mem_take,Qe,jC,Dw]
  ·grind [Qb,F7]
 ·rw[if_neg h0,if_neg h2,if_pos h3]at hQ;refine bu (n:=(P9 f.N (t:Int)).Z.length) (λj y=>y.1=(j:Int)/\∃v,y.2=v.map RF/\S8 u ((((P9 f.N (t:Int)).Z.take j).map (Tr f)).map λb=>r ||| 2^b) v) (λy=>y.1) 0 (λj y hy=>by rw[hy.1];omega) ⟨rfl,u,rfl,S8.refl hu⟩ ?_ ?_
  ·rintro j ⟨x,y⟩ next hj ⟨hx,v,hy,hG⟩ Q6
   dsimp only at hx hy;subst hx hy;have haj:=ha _ (qK hj);refine Qb (λ_=>⟨om,Be hr v0 hV haj.1 haj.2 (F7 hG.cap λw hw=>⟨Qo,Q6 _ ⟨by (try dsimp only);omega,w,rfl,?_⟩⟩)⟩) (λhc=>absurd om hc);rw[jC hj,map_append,map_append];exact hG.trans hw
  ·grind [Qb]
 ·rw[if_neg h0,if_neg h2,if_neg h3]at hQ;have h4:(P9 f.N (t:Int)).U=4:=by have:=vt g ht k1 k5;omega
  have hk:=kv h4;obtain⟨v,gv,pv⟩:=yU v0 hV (P9 f.N (t:Int)).Z (P9 f.N (t:Int)).K.toNat r ((P9 f.N (t:Int)).Z.length+1) u om n16 om ha hr hu;rw[show(((P9 f.N (t:Int)).K.toNat:Nat):Int)=(P9 f.N (t:Int)).K by omega]at pv;exact⟨_,pv _ (hQ v gv)⟩
theorem vG{b:Nat}:∀(bs:List Nat) (k r q:Nat),q∈sB bs k r->q.testBit b=true->r.testBit b=true\/b∈bs
 | bs,0,r,q,hq,hb=>by grind [sf]
 | [],k+1,r,q,hq,hb=>by cases hq
 | c::bs,k+1,r,q,hq,hb=>by
  rw[sB,mem_append]at hq;rcases hq with hq|hq
  ·rcases vG bs k _ q hq hb with h|h;·grind
   ·simp_all
  ·rcases vG bs (k+1) r q hq hb with h|h;·exact .inl h
   ·simp_all
theorem AY{b:Nat}:∀(bs:List Nat) (r:Nat),(Dw bs r).testBit b=true->r.testBit b=true\/b∈bs
 | [],r,h=>.inl h
 | c::bs,r,h=>by
  rcases AY bs (r ||| 2^c) h with h|h;·grind
  ·simp_all
theorem GS{r q:Nat}(hq:q∈BT f t r)(hb:q.testBit b=true):r.testBit b=true\/∃a,a∈(P9 f.N (t:Int)).Z/\b=Tr f a:=by
 have cv:b∈(P9 f.N (t:Int)).Z.map (Tr f)->∃a,a∈(P9 f.N (t:Int)).Z/\b=Tr f a:=λh=>by grind
 unfold BT at hq;dsimp only at hq;split at hq;·simp_all
 ·grind [AY,vG]
theorem yW:∀(bs:List Nat) (k r:Nat),(sB bs k r).length<=2^bs.length
 | bs,0,r=>by grind [sf]
 | [],k+1,r=>by simp[sB]
 | c::bs,k+1,r=>by have h1:=yW bs k (r ||| 2^c);have h2:=yW bs (k+1) r;rw[sB,length_append,length_cons,pow_succ];omega
theorem I0{r:Nat}(h:(P9 f.N (t:Int)).Z.length<=3):(BT f t r).length<=8:=by
 unfold BT;try dsimp only
 split;·split<;>simp
 ·split;·simp
  ·split;·grind
   ·have:=yW ((P9 f.N (t:Int)).Z.map (Tr f)) (P9 f.N (t:Int)).K.toNat r;rw[length_map]at this;exact le_trans this (pow_le_pow_right (n:=2) (j:=3) (by decide) h)
def Li(f:GFormula):Prop:=f.Y<=3/\f.N.length<=1/\∀t:Nat,t<f.N.length->(P9 f.N (t:Int)).Z.length<=3
def YL(f:GFormula)(t S:Nat):List Nat:=if S.testBit (24+t)=true then BT f t (S ^^^ 2^(24+t))else [S]
structure TJ(f:GFormula)(n B:Nat)(rows:List Nat):Prop where
 ro:∀r∈rows,SN r
 an:y_ rows
 nd:rows.Nodup
 le:rows.length<=1024
 bt:∀r∈rows,∀b,r.testBit b=true->(b:Int)<f.Y\/∃t:Nat,b=24+t/\t<f.N.length/\t<B/\Ul f t
 cv:∀s,s<2^n->∀S,DF f s S->(Rh rows S↔FV f s=true)
theorem GR{h:Nat->List Nat}(hh:∀r∈l,(h r).length<=8):(l.flatMap h).length<=l.length*8:=by
 induction l with
 | nil=>simp
 | cons a l ih=>grind
theorem TJ.acD{B:Nat}{rows:List Nat}(h:TJ f n B rows)(ht:Li f)(YC:t<f.N.length):(rows.flatMap (YL f t)).length<=128:=by
 obtain⟨h3,h1,ha⟩:=ht;have hb:∀r∈rows,r∈(range 8).flatMap λe=>[e,e ||| 2^24]:=λr hr=>by
  have TK:∀b,r.testBit b=true->b<3\/b=24:=λb hb=>by rcases h.bt r hr b hb with h|⟨t,h,h2,_,_⟩<;>omega
  rw[List.mem_flatMap];refine⟨r%8,List.mem_range.2 (mod_lt _ (by decide)),?_⟩;have hm:∀i,(r%8).testBit i=(decide (i<3)&&r.testBit i):=λi=>by rw[show(8:Nat)=2^3 from rfl,Nat.testBit_mod_two_pow]
  by_cases hc:r.testBit 24=true
  ·refine mem_cons_of_mem _ (List.mem_singleton.2 (mu λi=>?_))
   rw[testBit_or,hm,lT];cases hi:r.testBit i with
   | true=>
        rcases TK i hi with h|h;·simp[h]
        ·simp[h]
   | false=>grind
  ·refine List.mem_cons.2 (.inl (mu λi=>?_))
   rw[hm];cases hi:r.testBit i with
   | true=>
        rcases TK i hi with h|h;·simp[h]
        ·simp_all
   | false=>simp
 have hl:=h.nd.length_le_of_subset hb;have Yj:((range 8).flatMap λe=>[e,e ||| 2^24]).length=16:=by decide
 have:=GR (l:=rows) (h:=YL f t) λr _=>by
  unfold YL;split;·grind [I0]
  ·simp
 omega
theorem F1(hV0:0<=f.Y)(h0:0<=a)(h:a<f.Y+t)(hm:P9 (cU f f.N.length) a=true)(ht:t<=f.N.length):((Tr f a:Nat):Int)<f.Y\/∃t':Nat,Tr f a=24+t'/\t'<f.N.length/\t'<t/\Ul f t':=by
 unfold Tr;split;·left;omega
 ·grind
theorem Of(g:FG f)(hV:f.Y<=8)(hN:f.N.length<=16)(hc:Vu f){Q:List Grow->List Int->Option Int->Prop}(h4:¬Li f->Q [] [] (some 4))(hQ:∀rows st,TJ f n 0 rows->Q (rows.map RF) st none):lS f Q:=by
 have v0:=g.v0;have t0:=g.Sd;have tt:=g.top;have hb:=du g _ (le_refl _);have hz:(⟨0,(0,0)⟩:Grow)=RF 0:=rfl;have Vz:SN 0:=⟨by decide,by decide⟩;refine js g (λ_=>aB (λh=>by cases h) (λ_=>aB (λh=>by cases h) (λ_=>?_))) (λh=>absurd hc h);rw[hz];refine Be Vz v0 hV t0 om ?_;rw[Nat.zero_or];have Ue:TJ f n 16 [2^Tr f f.A]:=by
  have WZ:SN (2^Tr f f.A):=by have:=Vz.or (EC hV t0 om:Tr f f.A<8\/_);rwa[Nat.zero_or]at this
  refine⟨λr hr=>by rw[mem_singleton]at hr;subst hr;exact WZ,λa ha b hb _=>by rw[mem_singleton]at ha hb;rw[ha,hb],Qy,by simp,λr hr b UG=>?_,λs _ S hS=>?_⟩
  ·rw[mem_singleton]at hr;subst hr;rw[lT,decide_eq_true_eq]at UG;subst UG;rcases F1 v0 t0 tt hb.top (le_refl _)with h|⟨t',h1,h2,h3,h5⟩;·exact .inl h
   ·grind
  ·rw[oW,jf,hS _ t0 tt,FV]
 refine⟨λy=>∃rows:List Nat,y.1=rows.map RF/\y.2.length<=16/\TJ f n (16-y.2.length) rows,λy=>17-y.2.length,⟨[2^Tr f f.A],rfl,Nat.zero_le _,Ue⟩,?_⟩;rintro⟨rw0,steps⟩ ⟨rows,hrw,Uf,hJ⟩;dsimp only at hrw Uf hJ;subst hrw;have Vj:=hJ.le;refine Es om hJ.ro λi hG=>Qb (λadM=>?_) (λUh=>?_)
 ·
  refine hQ rows steps ⟨hJ.ro,hJ.an,hJ.nd,hJ.le,λr hr b UG=>?_,hJ.cv⟩;rcases hJ.bt r hr b UG with h|⟨t,rfl,_,_,_⟩;·exact .inl h
  ·have:=hG.max r hr t om;rw[UG]at this;cases this
 obtain⟨t,rfl⟩:=Int.eq_ofNat_of_zero_le (show 0<=i by omega);obtain⟨r0,agS,adu⟩:=hG.has om;rw[toNat_natCast]at adu;obtain⟨htN,htB,htm⟩:t<f.N.length/\t<16-steps.length/\Ul f t:=by
  rcases hJ.bt r0 agS _ adu with h|⟨t',h1,h2,h3,h5⟩;·omega
  ·grind
 obtain⟨k1,k5⟩:=hc t htN htm;have agF:t<16:=om;refine bu (n:=rows.length) (λj y=>y.1=(j:Int)/\∃v,y.2=v.map RF/\S8 [] ((rows.take j).flatMap (YL f t)) v) (λy=>y.1) 0 (λj y hy=>by rw[hy.1];omega) ⟨rfl,[],rfl,S8.refl (Nat.zero_le _)⟩ ?_ ?_
 ·rintro j ⟨x,y⟩ next hj ⟨hx,v,hy,hGr⟩ Q6
  dsimp only at hx hy;subst hx hy;have hR:=hJ.ro _ (getElem_mem hj);refine Qb (λ_=>⟨by rw[length_map];omega,?_⟩) (λhc=>absurd (by rw[length_map];omega) hc);rw[yu hj];have UD:∀w,S8 v (YL f t rows[j]) w->Qe ((j:Int)+1)/\next ((j:Int)+1,w.map RF):=λw hw=>⟨Qo,Q6 _ ⟨by (try dsimp only);omega,w,rfl,by
   rw[fS hj,List.flatMap_append,List.flatMap_cons,List.flatMap_nil,append_nil];exact hGr.trans hw⟩⟩
  refine OI hR agF (aB (λTK=>IZ g hV hN htN k1 k5 hR TK hGr.cap λw hw=>UD w ?_) (λTK=>F7 hGr.cap λw hw=>UD w ?_));·grind [YL]
  ·grind [YL]
 ·rintro⟨x,y⟩ next ⟨hx,v,hy,hGr⟩
  dsimp only at hx hy;subst hx hy;rw[take_length]at hGr;have hle:=hGr.le;simp only[List.length_nil,Nat.zero_add]at hle;refine Qb (λhc=>absurd hc (by rw[length_map];omega)) (λ_=>Qb (λVZ=>h4 λhT=>?_) (λhsm=>?_))
  ·rw[length_map]at VZ;have:=hJ.acD hT htN;omega
  rw[length_map]at hsm;have hv:v=rows.flatMap (YL f t):=by have:=hGr.eq om;simpa using this
  have hbt:∀r∈v,∀b,r.testBit b=true->(b:Int)<f.Y\/∃t':Nat,b=24+t'/\t'<f.N.length/\t'<t/\Ul f t':=λr hr b UG=>by
   rw[hv,List.mem_flatMap]at hr;obtain⟨q,hq,hr⟩:=hr;have old:∀b,q.testBit b=true->b≠24+t->(b:Int)<f.Y\/∃t':Nat,b=24+t'/\t'<f.N.length/\t'<t/\Ul f t':=λb V0 QI=>by
    rcases hJ.bt q hq b V0 with h|⟨t',rfl,h2,_,h5⟩;·exact .inl h
    ·refine .inr ⟨t',rfl,h2,?_,h5⟩;rcases lt_or_ge t t' with h|h;·have:=hG.max q hq t' om;rw[V0]at this;cases this
     ·omega
   unfold YL at hr;split at hr
   ·rename_i hqb;rcases GS hr UG with h|⟨a,ha,rfl⟩;·rw[qm hqb,and_eq_true,decide_eq_true_eq]at h;exact old b h.2 h.1
    ·have:=pR g htN htm a ha;exact F1 v0 this.1.1 this.1.2 this.2 om
   ·rename_i hqb;rw[mem_singleton]at hr;subst hr;exact old b UG λe=>by subst e;exact hqb UG
  have WZ:∀r∈v,SN r:=λr hr=>SN.of λb UG=>by grind
  have Up:∀s,s<2^n->∀S,DF f s S->(Rh v S↔FV f s=true):=λs hs S hS=>by
   rw[<-hJ.cv s hs S hS,hv,I9];refine exists_congr λr=>and_congr_right λ_=>?_
   unfold YL;split
   ·rename_i TK;rw[I' g hS htN k1 k5];constructor
    ·rintro⟨h1,h2⟩ b UG;by_cases e:b=24+t;·subst e;exact h2
     ·exact h1 b (by rw[qm TK,decide_eq_true e,Bool.true_and];exact UG)
    ·exact λh=>⟨(xj TK).trans h,h _ TK⟩
   ·rw[oW]
  refine KR om WZ λm ha hd hcm SC UX=>Qb (λVZ=>h4 λhT=>?_) (λagI=>?_)
  ·rw[length_map]at VZ;have:=hJ.acD hT htN;omega
  ·rw[length_map]at agI ⊢;refine⟨by rw[length_append];simp;omega,⟨m,rfl,?_,?_⟩,?_⟩;·grind
   ·try dsimp only
    refine⟨λr hr=>WZ r (SC r hr),ha,hd,om,λr hr b UG=>?_,λs hs S hS=>(hcm S).trans (Up s hs S hS)⟩;rcases hbt r (SC r hr) b UG with h|⟨t',h1,h2,h3,h5⟩;·exact .inl h
    ·exact .inr ⟨t',h1,h2,by rw[length_append,length_singleton];omega,h5⟩
   ·grind
theorem A_(g:FG f)(hV:f.Y<=8)(hN:f.N.length<=16)(hc:Vu f)(h4:¬Li f->Q [] (some 4))(hQ:∀m,Qw f.Y.toNat (FV f) m->Q (up m) none):fA f Q:=by
 have v0:=g.v0;refine Of (n:=f.Y.toNat) g hV hN hc (λhT=>aB (λ_=>h4 hT) (λh=>by cases h)) λrows st hJ=>aB (λh=>by cases h) (λ_=>?_)
 have Vj:=hJ.le;have Vn:∀r∈rows,∀b,r.testBit b=true->(b:Int)<f.Y:=λr hr b hb=>by
  rcases hJ.bt r hr b hb with h|⟨t,_,_,h,_⟩;·exact h
  ·omega
 have QH:∀r∈rows,r<2^f.Y.toNat:=λr hr=>uc λi hi=>by have:=Vn r hr i hi;omega
 have Vs:∀r∈rows,r<256:=λr hr=>lt_of_lt_of_le (QH r hr) (pow_le_pow_right (n:=2) (j:=8) (by decide) om);have hev:∀r∈rows,(RF r).events=(r:Int):=λr hr=>by show((r%2^24:Nat):Int)=(r:Int);have:=Vs r hr;have:(2:Nat)^24=16777216:=rfl;omega
 have hn:((rows.map RF).length:Int)=(rows.length:Int):=by rw[length_map]
 refine gB (n:=rows.length) (λi=>((i:Int),up (rows.take i))) (λy=>y.1) 0 (λi=>by (try dsimp only);omega) (by rw[take_zero];rfl) ?_ ?_;·grind [Qb,yu,fS,Qe,up]
 ·intro next
  refine Qb (λhc=>absurd hc (by (try dsimp only);omega)) (λ_=>⟨λv hv=>?_,by (try dsimp only);rw[take_length,cC];omega,λy hp hs=>?_⟩)
  ·(try dsimp only at hv)
   rw[take_length]at hv;obtain⟨t,ht,rfl⟩:=Bh.1 hv;have:=Vs t ht;exact⟨om,om⟩
  ·(try dsimp only at hp)
   (try dsimp only)
   rw[take_length]at hp ⊢;obtain⟨m,rfl,hm,TT⟩:=xH Vs hp hs;have hmm:∀t,t∈m↔t∈rows:=λt=>hm.mem_iff
   refine⟨hp.length_eq,hQ m ⟨⟨?_,λa ha b hb h=>hJ.an a ((hmm a).1 ha) b ((hmm b).1 hb) h⟩,λt ht=>QH t ((hmm t).1 ht),λs hs3=>?_⟩⟩;·have hnd:m.Nodup:=hm.nodup_iff.2 hJ.nd;rw[List.Nodup]at hnd;exact(TT.and hnd).imp λh=>h.1.resolve_right h.2
   ·obtain⟨S,hS⟩:=IY g s;rw[<-hJ.cv s hs3 S hS,nI hmm];refine exists_congr λr=>and_congr_right λhr=>?_
    have TK:∀b:Nat,(b:Int)<f.Y->S.testBit b=s.testBit b:=λb hb=>by have:=hS (b:Int) om om;rw[Tr,if_pos hb,toNat_natCast]at this;rw[this];exact zC om hb
    constructor;·exact λh b hb=>by rw[TK b (Vn r hr b hb)];exact h b hb
    ·exact λh b hb=>by rw[<-TK b (Vn r hr b hb)];exact h b hb
theorem EG(g:FG f)(hc:¬Vu f)(hQ:Q [] (some 7)):fA f Q:=by grind [fA,lS,js,aB]
end
def Cl(N:List P'):List (List Nat):=N.foldl (λacc x=>acc++[acc.getD x.F.toNat []++(acc.getD x.D.toNat []).map (λs=>s ||| 2^x.T.toNat)]) [[],[0]]
def zf(N:List P')(r:Nat):List Nat:=(Cl N).getD r []
variable{N:List P'}{x:P'}
theorem sR:Cl (N++[x])=Cl N++[zf N x.F.toNat++(zf N x.D.toNat).map (λs=>s ||| 2^x.T.toNat)]:=by grind [Cl,zf]
theorem Ac(N:List P'):(Cl N).length=2+N.length:=by
 induction N using rR with
 | h0=>rfl
 | h1 N x ih=>rw[sR,length_append,ih,length_append];simp;omega
theorem JM{r:Nat}(h:r<2+N.length):zf (N++[x]) r=zf N r:=by grind [zf,sR,Ac]
theorem xw{r:Nat}(M:List P')(h:r<2+N.length):zf (N++M) r=zf N r:=by
 induction M using rR with
 | h0=>simp
 | h1 M x ih=>rw[<-List.append_assoc,JM (by rw[length_append];omega),ih]
theorem ES:zf (N++[x]) (2+N.length)=zf N x.F.toNat++(zf N x.D.toNat).map (λs=>s ||| 2^x.T.toNat):=by grind [zf,sR,Ac]
theorem JN(hx:N[i]? = some x)(hl:x.F.toNat<2+i)(hh:x.D.toNat<2+i):zf N (2+i)=zf N x.F.toNat++(zf N x.D.toNat).map (λs=>s ||| 2^x.T.toNat):=by
 obtain⟨hi,rfl⟩:=List.getElem?_eq_some_iff.1 hx;have hlen:(N.take i).length=i:=by simp;omega
 have e:N=(N.take i++[N[i]])++N.drop (i+1):=by simp
 have hd:∀r,r<2+i->zf N r=zf (N.take i) r:=λr hr=>by grind [xw]
 rw[hd _ hl,hd _ hh];conv=>lhs;rw[e]
 rw[xw _ (by rw[length_append,hlen];simp)];have:=ES (N:=N.take i) (x:=N[i]);rw[hlen]at this;exact this
theorem fJ:zf N 0=[]:=(xw (r:=0) (N:=[]) N Qy).trans rfl
theorem jA:zf N 1=[0]:=(xw (r:=1) (N:=[]) N Qy).trans rfl
abbrev RV(N:List P')(r:Nat):Nat:=lvl 24 id N r
structure ZN(N:List P')(i:Nat)(x:P'):Prop where
 var:0<=x.T/\x.T<24
 lo:0<=x.F/\x.F<2+i
 hi:0<=x.D/\x.D<2+i
 ne:x.D≠0
 llo:x.T.toNat<RV N x.F.toNat
 lhi:x.T.toNat<RV N x.D.toNat
structure ZT(N:List P'):Prop where
 nd:∀(i:Nat) (x:P'),N[i]? = some x->ZN N i x
 Yn:∀(i j:Nat) (x:P'),N[i]? = some x->N[j]? = some x->i=j
variable{v:Nat}
section
variable{N:List P'}
theorem ZT.nil:ZT []:=⟨λi x h=>by simp at h,λi j x h=>by simp at h⟩
theorem ZT.kids(h:ZT N):zy N:=λi x hx=>⟨(h.nd i x hx).lo,(h.nd i x hx).hi⟩
theorem ZT.TZ(h:ZT N)(hx:N[i]? = some x):zf N (2+i)=zf N x.F.toNat++(zf N x.D.toNat).map (λs=>s ||| 2^x.T.toNat):=by obtain⟨_,b,c,_,_,_⟩:=h.nd i x hx;exact JN hx om om
theorem ZT.bits(h:ZT N):∀ {r:Nat},r<2+N.length->∀t,t∈zf N r->∀i,t.testBit i=true->RV N r<=i/\i<24:=by
 intro r;induction r using strongRecOn with
 | _ r ih=>
  intro hr t ht i hi;rcases fT hr with rfl|rfl|⟨j,x,rfl,hx⟩;·grind [fJ]
  ·grind [jA]
  ·obtain⟨hv,Sr,Sx,_,h1,h2⟩:=h.nd j x hx;rw[h.TZ hx,mem_append,List.mem_map]at ht;rw[RV,kq hx];show x.T.toNat<=i/\i<24;rcases ht with ht|⟨s,hs,rfl⟩;·have:=ih x.F.toNat om om t ht i hi;omega
   ·rw[testBit_or,or_eq_true,Nat.testBit_two_pow]at hi;rcases hi with hi|hi;·have:=ih x.D.toNat om om s hs i hi;omega
    ·grind
theorem Gs(hs:s.testBit v=false)(ht:t.testBit v=false)(h:s ||| 2^v=t ||| 2^v):s=t:=by
 refine Nat.eq_of_testBit_eq λi=>?_
 by_cases hi:i=v;·subst hi;rw[hs,ht]
 ·have:=congrArg (λn=>Nat.testBit n i) h;simp only[testBit_or,Nat.testBit_two_pow,decide_eq_false (λe=>hi (e:v=i).symm),Bool.or_false]at this;exact this
theorem ZT.clear(h:ZT N){r:Nat}(hr:r<2+N.length)(hv:v<RV N r)(ht:t∈zf N r):t.testBit v=false:=by
 cases hb:t.testBit v with
 | false=>rfl
 | true=>have:=(h.bits hr t ht v hb).1;omega
theorem ZT.nodup(h:ZT N):∀ {r:Nat},r<2+N.length->(zf N r).Nodup:=by
 intro r;induction r using strongRecOn with
 | _ r ih=>
  intro hr;rcases fT hr with rfl|rfl|⟨j,x,rfl,hx⟩;·grind [fJ]
  ·rw[jA];simp
  ·obtain⟨hv,Sr,Sx,_,h1,h2⟩:=h.nd j x hx;rw[h.TZ hx,List.nodup_append];refine⟨ih _ om om,?_,λa ha b hb e=>?_⟩
   ·rw[List.nodup_iff_pairwise_ne]at *
    refine List.pairwise_map.2 ((List.nodup_iff_pairwise_ne.1 (ih x.D.toNat om om)).imp_of_mem λ{a b} ha hb Xp e=>Xp (Gs (h.clear om h2 ha) (h.clear om h2 hb) e))
   ·obtain⟨s,hs,rfl⟩:=List.mem_map.1 hb;have h3:=h.clear om h1 ha;rw[e,testBit_or,Nat.testBit_two_pow_self,Bool.or_true]at h3;cases h3
theorem ZT.some(h:ZT N):∀ {r:Nat},r<2+N.length->r≠0->zf N r≠[]:=by
 intro r;induction r using strongRecOn with
 | _ r ih=>
  intro hr h0;rcases fT hr with rfl|rfl|⟨j,x,rfl,hx⟩;·exact absurd rfl h0
  ·rw[jA];simp
  ·obtain⟨hv,Sr,Sx,QI,h1,h2⟩:=h.nd j x hx;rw[h.TZ hx];intro e;rw[List.append_eq_nil_iff,List.map_eq_nil_iff]at e;exact ih x.D.toNat om om om e.2
theorem ZT.snoc(h:ZT N)(hv:0<=x.T/\x.T<24)(Sr:0<=x.F/\x.F<2+N.length)(Sx:0<=x.D/\x.D<2+N.length)(QI:x.D≠0)(h1:x.T.toNat<RV N x.F.toNat)(h2:x.T.toNat<RV N x.D.toNat)(ag4:x∉N):ZT (N++[x]):=by
 refine⟨λi y hy=>?_,λi j y hi hj=>?_⟩
 ·rcases lt_or_ge i N.length with hi|hi;·rw[List.getElem?_append_left hi]at hy;obtain⟨a,b,c,d,e,f⟩:=h.nd i y hy;exact⟨a,b,c,d,by rw[RV,kr _ om];exact e,by rw[RV,kr _ om];exact f⟩
  ·have SV:i<(N++[x]).length:=(List.getElem?_eq_some_iff.1 hy).1;simp only[length_append,length_singleton]at SV;obtain rfl:i=N.length:=om;rw[List.getElem?_append_right (le_refl _)]at hy;simp at hy;subst hy;exact⟨hv,Sr,Sx,QI,by rw[RV,kr _ om];exact h1,by rw[RV,kr _ om];exact h2⟩
 ·have SV:i<(N++[x]).length:=(List.getElem?_eq_some_iff.1 hi).1;have UM:j<(N++[x]).length:=(List.getElem?_eq_some_iff.1 hj).1;simp only[length_append,length_singleton]at SV UM;by_cases Q9:i<N.length
  ·rw[List.getElem?_append_left Q9]at hi;by_cases SU:j<N.length;·rw[List.getElem?_append_left SU]at hj;exact h.Yn i j y hi hj
   ·grind
  ·grind
end
section
variable{N:List P'}
theorem ZT.Sn(h:ZT N){r L:Nat}(hr:r<2+N.length)(hL:L<=24)(hb:∀t,t∈zf N r->∀i,t.testBit i=true->L<=i):L<=RV N r:=by
 rcases fT hr with rfl|rfl|⟨j,x,rfl,hx⟩;·grind [ga]
 ·grind [ga]
 ·obtain⟨hv,Sr,Sx,QI,h1,h2⟩:=h.nd j x hx;rw[RV,kq hx];show L<=x.T.toNat;have hs:=h.some (r:=x.D.toNat) om om;obtain⟨s,hs⟩:=List.exists_mem_of_ne_nil _ hs;refine hb (s ||| 2^x.T.toNat) (by rw[h.TZ hx];exact List.mem_append_right _ (List.mem_map.2 ⟨s,hs,rfl⟩)) _ ?_;rw[testBit_or,Nat.testBit_two_pow_self,Bool.or_true]
end
theorem Kb{A H W:List Nat}(hW:∀t,t∈W↔t∈H/\¬Rh A t) :Rh (A++W.map λt=>t ||| 2^v) s↔Rh A s\/s.testBit v=true/\Rh H s:=by
 rw[lP];constructor
 ·rintro(h|⟨t,ht,hs⟩);·exact Or.inl h
  ·obtain⟨u,hu,rfl⟩:=List.mem_map.1 ht;have h1:=j_.1 hs;exact Or.inr ⟨jf.1 h1.2,u,((hW u).1 hu).1,h1.1⟩
 ·rintro(h|⟨hv,u,hu,hs⟩);·exact Or.inl h
  ·by_cases hc:Rh A u;·exact Or.inl (hc.up hs)
   ·exact Or.inr ⟨u ||| 2^v,List.mem_map.2 ⟨u,(hW u).2 ⟨hu,hc⟩,rfl⟩,j_.2 ⟨hs,jf.2 hv⟩⟩
theorem rO{a:Nat}(ha:a.testBit v=false)(h:fN a (s ||| 2^v)):fN a s:=by
 intro i hi;have h1:=h i hi;rw[testBit_or,or_eq_true,Nat.testBit_two_pow]at h1;rcases h1 with h1|h1;·exact h1
 ·simp_all
theorem HY{A H W:List Nat}(hA:∀t,t∈A->t.testBit v=false)(hH:∀t,t∈H->t.testBit v=false)(aA:y_ A)(aH:y_ H)(hW:∀t,t∈W↔t∈H/\¬Rh A t) :y_ (A++W.map λt=>t ||| 2^v):=by
 intro a ha b hb Xp;rcases List.mem_append.1 ha with h1|h1<;>rcases List.mem_append.1 hb with h2|h2;·exact aA a h1 b h2 Xp
 ·obtain⟨u,hu,rfl⟩:=List.mem_map.1 h2;exact absurd ⟨a,h1,rO (hA a h1) Xp⟩ ((hW u).1 hu).2
 ·obtain⟨u,hu,rfl⟩:=List.mem_map.1 h1;have h3:=Xp v (by rw[testBit_or,Nat.testBit_two_pow_self,Bool.or_true]);rw[hA b h2]at h3;cases h3
 ·obtain⟨u,hu,rfl⟩:=List.mem_map.1 h1;obtain⟨w,hw,rfl⟩:=List.mem_map.1 h2;have hu':=((hW u).1 hu).1;rw[aH u hu' w ((hW w).1 hw).1 (rO (hH u hu') (j_.1 Xp).1)]
theorem Mm{A0 A1 B0 B1 X Y Z:List Nat}(hA0:∀t,t∈A0->t.testBit v=false)(hA1:∀t,t∈A1->t.testBit v=false)(hB0:∀t,t∈B0->t.testBit v=false)(hB1:∀t,t∈B1->t.testBit v=false)(hX:∀t,t∈X↔t∈A0/\¬Rh B0 t)(hY:∀t,t∈Y↔t∈A1/\¬Rh B0 t)(hZ:∀t,t∈Z↔t∈Y/\¬Rh B1 t)(t:Nat) :t∈(X++Z.map λt=>t ||| 2^v)↔t∈(A0++A1.map λt=>t ||| 2^v)/\¬Rh (B0++B1.map λt=>t ||| 2^v) t:=by
 rw[mem_append,mem_append,lP];have ald:∀ {t},t.testBit v=false->¬Rh (B1.map λt=>t ||| 2^v) t:=λ{t} ht ⟨u,hu,hs⟩=>by obtain⟨w,hw,rfl⟩:=List.mem_map.1 hu;have:=hs v (by rw[testBit_or,Nat.testBit_two_pow_self,Bool.or_true]);rw[ht]at this;cases this
 have b1:∀ {s},Rh (B1.map λt=>t ||| 2^v) (s ||| 2^v)↔Rh B1 s:=λ{s}=>by
  constructor;·rintro⟨u,hu,hs⟩;obtain⟨w,hw,rfl⟩:=List.mem_map.1 hu;exact⟨w,hw,rO (hB1 w hw) (j_.1 hs).1⟩
  ·rintro⟨w,hw,hs⟩;exact⟨w ||| 2^v,List.mem_map.2 ⟨w,hw,rfl⟩,j_.2 ⟨λi hi=>by rw[testBit_or,hs i hi,Bool.true_or],λi hi=>by rw[testBit_or,hi,Bool.or_true]⟩⟩
 have b0:∀ {s},Rh B0 (s ||| 2^v)↔Rh B0 s:=λ{s}=>by
  constructor;·rintro⟨w,hw,hs⟩;exact⟨w,hw,rO (hB0 w hw) hs⟩
  ·rintro⟨w,hw,hs⟩;exact⟨w,hw,λi hi=>by rw[testBit_or,hs i hi,Bool.true_or]⟩
 constructor;·grind
 ·grind
structure ZB(nodes:List P')(unique memo:Qa Int):Prop where
 zt:ZT nodes
 uq:∀v lo hi r,bB unique [v,lo,hi]=some r↔∃i,r=((2+i:Nat):Int)/\nodes[i]? = some ⟨v,lo,hi⟩
 mw:∀a b r,bB memo [119,a,b]=some r->(Vd nodes a/\Vd nodes b)/\Vd nodes r/\∀t,t∈zf nodes r.toNat↔t∈zf nodes a.toNat/\¬Rh (zf nodes b.toNat) t
 mc:∀a b r,bB memo [99,a,b]=some r->Vd nodes a/\r=((zf nodes a.toNat).length:Int)
theorem ZB.nil:ZB [] de de:=⟨ZT.nil,λv lo hi r=>⟨λh=>by simp[h_]at h,λ⟨i,_,h⟩=>by simp at h⟩,λa b r h=>by simp[h_]at h,λa b r h=>by simp[h_]at h⟩
variable{r:Int}{N':List P'}
section
variable{nodes:List P'}{unique memo:Qa Int}
theorem jY(h:Vd N r)(hp:RA N N'):zf N' r.toNat=zf N r.toNat:=by obtain⟨M,rfl⟩:=hp;exact xw M h.2
theorem ZB.Ux(h:ZB nodes unique memo){v lo hi:Int}(hr:bB unique [v,lo,hi]=some r):Vd nodes r/\zf nodes r.toNat=zf nodes lo.toNat++(zf nodes hi.toNat).map λt=>t ||| 2^v.toNat:=by obtain⟨i,rfl,Q9⟩:=(h.uq v lo hi r).1 hr;have hl:=(List.getElem?_eq_some_iff.1 Q9).1;refine⟨⟨om,by rw[toNat_natCast];omega⟩,?_⟩;rw[toNat_natCast];exact h.zt.TZ Q9
theorem ZB.TA(h:ZB nodes unique memo){v lo hi:Int}(hv:0<=v/\v<24)(Sr:Vd nodes lo)(Sx:Vd nodes hi)(QI:hi≠0)(h1:v.toNat<RV nodes lo.toNat)(h2:v.toNat<RV nodes hi.toNat)(Tj:bB unique [v,lo,hi]=none) :
  ZB (nodes++[⟨v,lo,hi⟩]) (QL unique [v,lo,hi] (2+nodes.length)) memo/\Vd (nodes++[⟨v,lo,hi⟩]) (2+nodes.length)/\
   zf (nodes++[⟨v,lo,hi⟩]) (2+nodes.length)=zf nodes lo.toNat++(zf nodes hi.toNat).map λt=>t ||| 2^v.toNat:=by
 have hnm:(⟨v,lo,hi⟩:P')∉nodes:=λhm=>by obtain⟨i,Q9⟩:=List.mem_iff_getElem?.1 hm;have:=(h.uq v lo hi _).2 ⟨i,rfl,Q9⟩;rw[Tj]at this;cases this
 have hp:RA nodes (nodes++[⟨v,lo,hi⟩]):=⟨_,rfl⟩;have w:=h.zt.snoc (x:=⟨v,lo,hi⟩) hv ⟨Sr.1,by have:=Sr.2;have:=Sr.1;simp only;omega⟩ ⟨Sx.1,by have:=Sx.2;have:=Sx.1;simp only;omega⟩ QI h1 h2 hnm;have R9:(nodes++[⟨v,lo,hi⟩])[nodes.length]? = some (⟨v,lo,hi⟩:P'):=by simp
 refine⟨⟨w,λv' lo' Q9 r=>?_,λa b r hr=>?_,λa b r hr=>?_⟩,⟨om,by rw[length_append,length_singleton];omega⟩,ES⟩
 ·rw[jp];constructor
  ·intro hh;by_cases he : [v',lo',Q9]=[v,lo,hi];·grind
   ·rw[if_neg he]at hh;obtain⟨i,a,b⟩:=(h.uq _ _ _ _).1 hh;exact⟨i,a,by rw[List.getElem?_append_left (List.getElem?_eq_some_iff.1 b).1];exact b⟩
  ·rintro⟨i,rfl,UZ⟩;have SV:i<(nodes++[(⟨v,lo,hi⟩:P')]).length:=(List.getElem?_eq_some_iff.1 UZ).1;simp only[length_append,length_singleton]at SV;rcases lt_or_ge i nodes.length with h3|h3;·rw[List.getElem?_append_left h3]at UZ;have h4:=(h.uq v' lo' Q9 _).2 ⟨i,rfl,UZ⟩;rw[if_neg,h4];intro he;simp only[List.cons.injEq,and_true]at he;obtain⟨rfl,rfl,rfl⟩:=he;rw[Tj]at h4;cases h4
   ·grind
 ·obtain⟨⟨a1,a2⟩,a3,a4⟩:=h.mw a b r hr;refine⟨⟨a1.pre hp,a2.pre hp⟩,a3.pre hp,λt=>?_⟩
  rw[jY a1 hp,jY a2 hp,jY a3 hp];exact a4 t
 ·obtain⟨a1,a2⟩:=h.mc a b r hr;exact⟨a1.pre hp,by rw[jY a1 hp];exact a2⟩
theorem ZB.acP(h:ZB nodes unique memo){b:Int}(ha:Vd nodes a)(hb:Vd nodes b)(hr:Vd nodes r)(hd:∀t,t∈zf nodes r.toNat↔t∈zf nodes a.toNat/\¬Rh (zf nodes b.toNat) t):ZB nodes unique (QL memo [119,a,b] r):=by
 refine⟨h.zt,h.uq,λa' b' r' hh=>?_,λa' b' r' hh=>?_⟩
 ·rw[jp]at hh;by_cases he : [119,a',b']=[119,a,b];·simp_all
  ·rw[if_neg he]at hh;exact h.mw a' b' r' hh
 ·rw[jp,if_neg Qy]at hh;exact h.mc a' b' r' hh
theorem ZB.acQ(h:ZB nodes unique memo){b:Int}(ha:Vd nodes a)(hr:r=((zf nodes a.toNat).length:Int)):ZB nodes unique (QL memo [99,a,b] r):=by
 refine⟨h.zt,h.uq,λa' b' r' hh=>?_,λa' b' r' hh=>?_⟩;·rw[jp,if_neg Qy]at hh;exact h.mw a' b' r' hh
 ·rw[jp]at hh;by_cases he : [99,a',b']=[99,a,b];·simp_all
  ·rw[if_neg he]at hh;exact h.mc a' b' r' hh
end
structure EZ(T:List P')(refs:Qa Int)(b:List Int)(M:List P'):Prop where
 re:∀q x:Int,bB refs [q]=some x↔(0<=q/\q<2/\x=q)\/∃j:Nat,b[j]? = some q/\x=2+(j:Int)
 ge:∀q,q∈b->2<=q
 nd:b.Nodup
 ml:M.length=b.length
 mm:∀(j:Nat) (q:Int),b[j]? = some q->∃(i:Nat) (x:P') (y1 y2:Int),q=((2+i:Nat):Int)/\T[i]? = some x/\bB refs [x.F]=some y1/\bB refs [x.D]=some y2/\M[j]? = some ⟨x.T,y1,y2⟩/\y1<2+(j:Int)/\y2<2+(j:Int)
section
variable{T M:List P'}{refs:Qa Int}{b:List Int}
theorem EZ.start:EZ T (QL (QL de [0] 0) [1] 1) [] []:=by
 refine⟨λq x=>?_,λq hq=>(List.not_mem_nil hq).elim,List.nodup_nil,rfl,λj q h=>by simp at h⟩;rw[bH,bH];constructor;·grind [h_]
 ·grind
theorem EZ.pos(h:EZ T refs b M){q x:Int}(hq:bB refs [q]=some x):0<=q/\0<=x/\x<2+b.length/\(q<2->x=q)/\(2<=q->2<=x):=by
 rcases (h.re q x).1 hq with⟨h1,h2,rfl⟩|⟨j,hj,rfl⟩;·omega
 ·have h1:=h.ge q (List.mem_of_getElem? hj);have h2:=(List.getElem?_eq_some_iff.1 hj).1;exact⟨om,om,om,λh=>om,λ_=>om⟩
theorem EZ.inj(h:EZ T refs b M){q q' x:Int}(hq:bB refs [q]=some x)(hq':bB refs [q']=some x):q=q':=by
 rcases (h.re q x).1 hq with⟨h1,h2,h3⟩|⟨j,hj,h3⟩<;>rcases (h.re q' x).1 hq' with⟨k1,k2,k3⟩|⟨j',SU,k3⟩;·omega
 ·omega
 ·omega
 ·grind
theorem EZ.node(h:EZ T refs b M){y1 y2:Int}(hx:T[i]? = some x)(h1:bB refs [x.F]=some y1)(h2:bB refs [x.D]=some y2)(hn:((2+i:Nat):Int)∉b) :EZ T (QL refs [((2+i:Nat):Int)] (2+b.length)) (b++[((2+i:Nat):Int)]) (M++[⟨x.T,y1,y2⟩]):=by
 have keep:∀ {q y},bB refs [q]=some y->bB (QL refs [((2+i:Nat):Int)] (2+(b.length:Int))) [q]=some y:=λ{q y} hq=>by
  rw[bH,if_neg,hq];intro e;subst e;rcases (h.re _ y).1 hq with⟨_,h4,_⟩|⟨j,hj,_⟩;·omega
  ·grind
 refine⟨λq y=>?_,λq hq=>?_,?_,by rw[length_append,length_append,h.ml];rfl,λj q hj=>?_⟩
 ·rw[bH];constructor
  ·intro hq;split at hq;·grind
   ·rcases (h.re q y).1 hq with h3|⟨j,hj,h4⟩;·exact Or.inl h3
    ·grind
  ·rintro(⟨h3,h4,rfl⟩|⟨j,hj,rfl⟩);·rw[if_neg om];exact(h.re y y).2 (Or.inl ⟨h3,h4,rfl⟩)
   ·have hl:=(List.getElem?_eq_some_iff.1 hj).1;simp only[length_append,length_singleton]at hl;rcases lt_or_ge j b.length with h5|h5;·rw[List.getElem?_append_left h5]at hj;rw[if_neg (λe=>hn (by rw[<-e];exact List.mem_of_getElem? hj))];exact(h.re q _).2 (Or.inr ⟨j,hj,rfl⟩)
    ·grind
 ·rcases List.mem_append.1 hq with hq|hq;·exact h.ge q hq
  ·grind
 ·rw[List.nodup_append];exact⟨h.nd,by simp,λa ha c hc e=>by rw[mem_singleton]at hc;subst hc e;exact hn ha⟩
 ·have hl:=(List.getElem?_eq_some_iff.1 hj).1;simp only[length_append,length_singleton]at hl;rcases lt_or_ge j b.length with h5|h5;·rw[List.getElem?_append_left h5]at hj;obtain⟨i',x',z1,z2,e1,e2,e3,e4,e5,e6,e7⟩:=h.mm j q hj;exact⟨i',x',z1,z2,e1,e2,keep e3,keep e4,by rw[List.getElem?_append_left (by rw[h.ml];exact h5)];exact e5,e6,e7⟩
  ·obtain rfl:j=b.length:=om;simp at hj;subst hj;have p1:=h.pos h1;have p2:=h.pos h2;exact⟨i,x,y1,y2,rfl,hx,keep h1,keep h2,by rw[List.getElem?_append_right (by rw[h.ml];exact le_refl _),h.ml];simp,om,om⟩
theorem EZ.at(h:EZ T refs b M){q y:Int}(hq:bB refs [q]=some y):(q<2/\0<=q/\y=q)\/∃(i j:Nat) (x:P') (y1 y2:Int),q=((2+i:Nat):Int)/\y=((2+j:Nat):Int)/\T[i]? = some x/\bB refs [x.F]=some y1/\bB refs [x.D]=some y2/\M[j]? = some ⟨x.T,y1,y2⟩/\y1<2+(j:Int)/\y2<2+(j:Int)/\b[j]? = some q:=by
 rcases (h.re q y).1 hq with⟨h1,h2,h3⟩|⟨j,hj,h3⟩;·omega
 ·obtain⟨i,x,y1,y2,e1,e2,e3,e4,e5,e6,e7⟩:=h.mm j q hj;exact Or.inr ⟨i,j,x,y1,y2,e1,om,e2,e3,e4,e5,e6,e7,hj⟩
theorem EZ.lvl(h:EZ T refs b M){q y:Int}(hq:bB refs [q]=some y):RV M y.toNat=RV T q.toNat:=by
 rcases h.at hq with⟨h1,h2,rfl⟩|⟨i,j,x,y1,y2,rfl,rfl,e2,_,_,e5,_⟩;·grind [ga]
 ·rw[toNat_natCast,toNat_natCast,RV,RV,kq e2,kq e5]
theorem EZ.mem(h:EZ T refs b M){m:P'}(hm:M[j]? = some m):∃(i:Nat) (x:P') (y1 y2:Int),b[j]? = some ((2+i:Nat):Int)/\T[i]? = some x/\bB refs [x.F]=some y1/\bB refs [x.D]=some y2/\m=⟨x.T,y1,y2⟩/\y1<2+(j:Int)/\y2<2+(j:Int):=by have hl:=(List.getElem?_eq_some_iff.1 hm).1;rw[h.ml]at hl;have hb:b[j]? = some b[j]:=List.getElem?_eq_getElem hl;obtain⟨i,x,y1,y2,e1,e2,e3,e4,e5,e6,e7⟩:=h.mm j _ hb;rw[e5]at hm;cases hm;exact⟨i,x,y1,y2,by rw[hb,e1],e2,e3,e4,rfl,e6,e7⟩
theorem EZ.zt(hT:ZT T)(h:EZ T refs b M):ZT M:=by
 refine⟨λj m hm=>?_,λj j' m hm Uo=>?_⟩
 ·obtain⟨i,x,y1,y2,e1,e2,e3,e4,rfl,e6,e7⟩:=h.mem hm;obtain⟨hv,Sr,Sx,QI,h1,h2⟩:=hT.nd i x e2;have p1:=h.pos e3;have p2:=h.pos e4;refine⟨hv,⟨p1.2.1,e6⟩,⟨p2.2.1,e7⟩,?_,?_,?_⟩;·grind
  ·show x.T.toNat<RV M y1.toNat;rw[h.lvl e3];exact h1
  ·show x.T.toNat<RV M y2.toNat;rw[h.lvl e4];exact h2
 ·obtain⟨i,x,y1,y2,e1,e2,e3,e4,rfl,e6,e7⟩:=h.mem hm;obtain⟨i',x',z1,z2,k1,k2,k3,k4,k5,k6,k7⟩:=h.mem Uo;simp only[P'.mk.injEq]at k5;obtain⟨a1,rfl,rfl⟩:=k5;have Sr:=h.inj e3 k3;have Sx:=h.inj e4 k4;have Za:x=x':=by cases x;cases x';simp only[P'.mk.injEq];exact⟨a1,Sr,Sx⟩
  subst Za;have:i=i':=hT.Yn i i' x e2 k2;subst this;have hl:=(List.getElem?_eq_some_iff.1 e1).1;exact(List.getElem?_inj hl h.nd).1 (e1.trans k1.symm)
theorem EZ.zf(hT:ZT T)(h:EZ T refs b M):∀(n:Nat) {q y:Int},q.toNat<n->bB refs [q]=some y->zf M y.toNat=Gg.zf T q.toNat:=by
 intro n;induction n with
 | zero=>intro q y hn;omega
 | succ n ih=>
  intro q y hn hq;rcases h.at hq with⟨h1,h2,rfl⟩|⟨i,j,x,y1,y2,rfl,rfl,e2,e3,e4,e5,_⟩
  ·rcases (by omega:y=0\/y=1)with rfl|rfl;·grind [fJ]
   ·grind [jA]
  ·obtain⟨hv,Sr,Sx,_,_,_⟩:=hT.nd i x e2;rw[toNat_natCast]at hn ⊢;rw[toNat_natCast,(h.zt hT).TZ e5,hT.TZ e2];show Gg.zf M y1.toNat++_=_;rw[ih om e3,ih om e4]
theorem EZ.again(hT:ZT T)(h:EZ T refs b M):∀(n:Nat) {q y:Int} (k k':Nat),q.toNat<n->bB refs [q]=some y->k<=b.length->k'<=b.length->QY T q.toNat (b.take k)=b.take k'->QY M y.toNat (upto k)=upto k':=by
 intro n;induction n with
 | zero=>intro q y k k' hn;omega
 | succ n ih=>
  intro q y k k' hn hq hk Wn VU;have leq:∀ {k k':Nat},k<=b.length->k'<=b.length->b.take k=b.take k'->k=k':=λ{k k'} h1 h2 e=>by simp_all
  rcases h.at hq with⟨h1,h2,rfl⟩|⟨i,j,x,y1,y2,rfl,rfl,e2,e3,e4,e5,e6,e7,hj⟩;·grind [iC]
  ·have UM:=(List.getElem?_eq_some_iff.1 hj).1;rw[toNat_natCast]at hn VU ⊢;by_cases hm:((2+i:Nat):Int)∈b.take k
   ·rw[iC (Or.inr hm)]at VU;obtain⟨j',SU⟩:=List.mem_iff_getElem?.1 hm;have ahj:j'<k:=by grind
    rw[List.getElem?_take_of_lt ahj]at SU;have:j=j':=(List.getElem?_inj UM h.nd).1 (hj.trans SU.symm);subst this;rw[iC (Or.inr (pQ.2 om)),leq hk Wn VU]
   ·rw[lE hT.kids e2 hm]at VU;obtain⟨c1,g1,_⟩:=oa hT.kids x.F.toNat (b.take k);obtain⟨c2,g2,_⟩:=oa hT.kids x.D.toNat (QY T x.F.toNat (b.take k));have adA:b.take k'=b.take k++c1++c2++[((2+i:Nat):Int)]:=by rw[<-VU,g2,g1]
    have hlen:=congrArg List.length adA;simp only[length_take,length_append,length_singleton]at hlen;have cut:∀(u:List Int) (w:List Int),b.take k'=u++w->u=b.take u.length:=λu w e=>by grind [List.take_append_drop]
    have l1:b.take k++c1=b.take (k+c1.length):=by grind
    have l2:b.take k++c1++c2=b.take (k+c1.length+c2.length):=by grind
    have i1:=ih k (k+c1.length) (q:=x.F) (by have:=hT.nd i x e2;have:=this.lo;omega) e3 hk om (by rw[g1,l1]);have i2:=ih (k+c1.length) (k+c1.length+c2.length) (q:=x.D) (by have:=hT.nd i x e2;have:=this.hi;omega) e4 om om (by rw[<-l1,<-g1,g2,g1,l2]);have R9:b[k+c1.length+c2.length]? = some ((2+i:Nat):Int):=by
     have h3:(b.take k')[k+c1.length+c2.length]? = some ((2+i:Nat):Int):=by grind [List.getElem?_append_right,length_append,length_take,min]
     rwa[List.getElem?_take_of_lt om]at h3
    have:j=k+c1.length+c2.length:=(List.getElem?_inj UM h.nd).1 (hj.trans R9.symm);subst this;rw[lE (h.zt hT).kids e5 (λhm=>by have:=pQ.1 hm;omega),i1,i2];have YF:k'=k+c1.length+c2.length+1:=om;rw[YF,Af]
end
section
variable{nodes:List P'}{unique memo:Qa Int}
theorem ZT.ref(h:ZT nodes)(hr:Vd nodes r)(h2:2<=r):nodes[(r-2).toNat]? = Option.some (P9 nodes (r-2))/\ZN nodes (r-2).toNat (P9 nodes (r-2))/\RV nodes r.toNat=(P9 nodes (r-2)).T.toNat/\ zf nodes r.toNat=zf nodes (P9 nodes (r-2)).F.toNat++(zf nodes (P9 nodes (r-2)).D.toNat).map λt=>t ||| 2^(P9 nodes (r-2)).T.toNat:=by
 have h0:=hr.1;have h1:=hr.2;have hx:=kQ (N:=nodes) (i:=(r-2).toNat) om;rw[show(((r-2).toNat:Nat):Int)=r-2 by omega]at hx;have e:2+(r-2).toNat=r.toNat:=om;refine⟨hx,h.nd _ _ hx,?_,?_⟩;·have:=kq (n:=24) (lev:=id) hx;rwa[e]at this
 ·have:=h.TZ hx;rwa[e]at this
theorem wT(h:Vd nodes r)(hp:RA nodes N'):RV N' r.toNat=RV nodes r.toNat:=RA.lvl h hp
theorem JL:Vd nodes 0:=⟨Int.le_refl _,om⟩
theorem Pg:Vd nodes 1:=⟨by decide,by show 1<_;omega⟩
theorem EQ(h0:0<=r)(h:r<2):RV nodes r.toNat=24:=ga om
theorem BU(h:ZT nodes)(hb:nodes.length<=1099511627776)(hr:Vd nodes r){Q:Int->Prop}(hQ:Q (RV nodes r.toNat:Int)):cO r nodes unique memo Q:=by
 have h0:=hr.1;have h1:=hr.2;refine Qb (λh2=>?_) (λh2=>?_)
 ·rw[EQ h0 h2]at hQ;exact hQ
 ·obtain⟨_,n,e,_⟩:=h.ref hr om;have:=n.var;rw[e,show(((P9 nodes (r-2)).T.toNat:Nat):Int)=(P9 nodes (r-2)).T by omega]at hQ;exact⟨Qo,⟨om,om⟩,hQ⟩
def Yv(nodes:List P')(r:Int)(v:Nat):Int:=if RV nodes r.toNat=v then (P9 nodes (r-2)).F else r
def Xu(nodes:List P')(r:Int)(v:Nat):Int:=if RV nodes r.toNat=v then (P9 nodes (r-2)).D else 0
theorem ER(h:ZT nodes)(hb:nodes.length<=1099511627776)(hr:Vd nodes r)(hv:v<24){Q:Int->Int->Prop}(hQ:Q (Yv nodes r v) (Xu nodes r v)):dY r (v:Int) nodes unique memo Q:=by
 have h0:=hr.1;have h1:=hr.2;refine BU h hb hr (iY (λhc=>?_) (λhc=>?_))
 ·rw[Yv,Xu,if_neg om,if_neg om]at hQ;exact hQ
 ·have h2:2<=r:=by
   by_cases h2:r<2;·rw[EQ h0 h2]at hc;omega
   ·omega
  rw[Yv,Xu,if_pos om,if_pos om]at hQ;exact⟨Qo,⟨om,om⟩,hQ⟩
theorem Lw(h:ZT nodes)(hr:Vd nodes r)(hv:v<24)(hl:v<=RV nodes r.toNat) :(Vd nodes (Yv nodes r v)/\Vd nodes (Xu nodes r v))/\(v<RV nodes (Yv nodes r v).toNat/\v<RV nodes (Xu nodes r v).toNat)/\zf nodes r.toNat=zf nodes (Yv nodes r v).toNat++(zf nodes (Xu nodes r v).toNat).map λt=>t ||| 2^v:=by
 have h0:=hr.1;have h1:=hr.2;unfold Yv Xu;by_cases e:RV nodes r.toNat=v
 ·rw[if_pos e,if_pos e];have h2:2<=r:=by
   by_cases h2:r<2;·rw[EQ h0 h2]at e;omega
   ·omega
  obtain⟨_,n,e2,e3⟩:=h.ref hr h2;have l:=n.lo;have k:=n.hi;have:=n.llo;have:=n.lhi;refine⟨⟨⟨l.1,om⟩,k.1,om⟩,⟨om,om⟩,?_⟩;rw[e3,<-e2,e]
 ·rw[if_neg e,if_neg e];refine⟨⟨hr,JL⟩,⟨om,by rw[EQ (by decide) (by decide)];exact hv⟩,?_⟩;rw[show(0:Int).toNat=0 from rfl,fJ];simp
theorem uk(h:ZT nodes)(hb:nodes.length<=1099511627776)(hr:Vd nodes r){Q:Bool->Prop}(hQ:Q (decide (0∈zf nodes r.toNat))):eM r nodes unique memo Q:=by
 refine⟨λy=>Vd nodes y/\(0∈zf nodes y.toNat↔0∈zf nodes r.toNat),λy=>y.toNat,⟨hr,Iff.rfl⟩,?_⟩
 rintro y ⟨hy,hi⟩;have h0:=hy.1;have h1:=hy.2;refine Qb (λh2=>?_) (λh2=>?_)
 ·obtain⟨_,n,e2,e3⟩:=h.ref hy h2;have l:=n.lo;refine⟨Qo,⟨om,om⟩,⟨⟨l.1,om⟩,?_⟩,(by dsimp only;omega)⟩;rw[<-hi,e3,mem_append];refine⟨.inl,λh=>h.elim id λh=>?_⟩
  obtain⟨t,_,ht⟩:=List.mem_map.1 h;have:=congrArg (λx=>Nat.testBit x (P9 nodes (y-2)).T.toNat) ht;simp[testBit_or,Nat.testBit_two_pow_self]at this
 ·rcases (show y=0\/y=1 by omega)with rfl|rfl;·rw[show(0:Int).toNat=0 from rfl,fJ]at hi;rw[decide_eq_false (λhc=>by have:=hi.2 hc;cases this)]at hQ;exact hQ
  ·rw[show(1:Int).toNat=1 from rfl,jA]at hi;rw[decide_eq_true (hi.1 Qy)]at hQ;exact hQ
structure abq(nodes Qm:List P')(Qq QE:Qa Int)(r:Int)(c:Nat):Prop where
 zb:ZB Qm Qq QE
 pre:RA nodes Qm
 vd:Vd Qm r
 len:Qm.length<=nodes.length+c
def ZE(n:Nat)(nodes:List P'):Prop:=∀(i:Nat) (x:P'),nodes[i]? = some x->x.T<n
theorem ZE.app(h:ZE n nodes)(hx:x.T<n):ZE n (nodes++[x]):=λi y hy=>by
 rw[List.getElem?_append]at hy;split at hy;·exact h i y hy
 ·have:i-nodes.length=0\/0<i-nodes.length:=om;rcases this with e|e;·rw[e]at hy;cases hy;exact hx
  ·rw[List.getElem?_eq_none (by simp;omega)]at hy;cases hy
theorem F9(h:ZB nodes unique memo)(hb:nodes.length+1<=1099511627776){v lo hi:Int}(hv:0<=v/\v<24)(Sr:Vd nodes lo)(Sx:Vd nodes hi)(h1:v.toNat<RV nodes lo.toNat)(h2:v.toNat<RV nodes hi.toNat) :∃N' u' r,(abq nodes N' u' memo r 1/\(zf N' r.toNat=zf nodes lo.toNat++(zf nodes hi.toNat).map λt=>t ||| 2^v.toNat)/\∀n:Nat,ZE n nodes->v<n->ZE n N')/\∀Q:List P'->Qa Int->Int->Prop,Q N' u' r->cA v lo hi nodes unique memo Q:=by
 by_cases h0:hi=0;·subst h0;refine⟨nodes,unique,lo,⟨⟨h,RA.refl _,Sr,om⟩,?_,λ_ h _=>h⟩,λQ hQ=>bk (λ_=>hQ) (λhc=>absurd rfl hc)⟩;rw[show(0:Int).toNat=0 from rfl,fJ];simp
 cases hm:bB unique [v,lo,hi]with
 | some r=>
  obtain⟨a,b⟩:=h.Ux hm;refine⟨nodes,unique,r,⟨⟨h,RA.refl _,a,om⟩,b,λ_ h _=>h⟩,λQ hQ=>bk (λhc=>absurd hc h0) (λ_=>?_)⟩
  rw[hm];exact aB (λhc=>by cases hc) (λ_=>hQ)
 | none=>
  obtain⟨a,b,c⟩:=h.TA hv Sr Sx h0 h1 h2 hm;refine⟨_,_,_,⟨⟨a,⟨_,rfl⟩,b,by rw[length_append];exact le_refl _⟩,?_,λ_ h hv=>h.app hv⟩,λQ hQ=>bk (λhc=>absurd hc h0) (λ_=>?_)⟩
  ·rw[show((2:Int)+(nodes.length:Int)).toNat=2+nodes.length by omega];exact c
  ·rw[hm];exact aB (λ_=>⟨Qo,by rw[length_append];simp;omega,hQ⟩) (λhc=>by cases hc)
theorem Ps(k:Nat):0<4^k:=pow_pos (by decide)
theorem Hb(hn:n<=8):∀(k fu:Nat) {nodes:List P'} {unique memo:Qa Int} {a b:Int},3*k+1<=fu->ZB nodes unique memo->ZE n nodes->Vd nodes a->Vd nodes b->n-min n (min (RV nodes a.toNat) (RV nodes b.toNat))<=k->nodes.length+4^k<=1099511627776->∃N' u' m' r,(abq nodes N' u' m' r (4^k)/\ZE n N'/\∀t,t∈zf N' r.toNat↔t∈zf nodes a.toNat/\¬Rh (zf nodes b.toNat) t)/\∀Q:List P'->Qa Int->Qa Int->Int->Prop,Q N' u' m' r->aP fu a b nodes unique memo Q:=by
 intro k;induction k with
 | zero=>
  intro fu nodes unique memo a b UN hB hE ha hb hk hlen;obtain⟨fu,rfl⟩:∃f,fu=f+1:=⟨fu-1,om⟩;have nl:nodes.length<=1099511627776:=om;have h0:=ha.1;have h0':=hb.1;by_cases hz:a=0\/0∈zf nodes b.toNat
  ·refine⟨nodes,unique,memo,0,⟨⟨hB,RA.refl _,JL,om⟩,hE,λt=>?_⟩,λQ hQ=>?_⟩
   ·rw[show(0:Int).toNat=0 from rfl,fJ];refine⟨λh=>(by cases h),λ⟨h1,h2⟩=>?_⟩
    rcases hz with rfl|hz;·rw[show(0:Int).toNat=0 from rfl,fJ]at h1;exact h1
    ·exact absurd ⟨0,hz,nG t⟩ h2
   ·rw[aP];refine⟨λb=>b=true,bk (λ_=>rfl) (λhc=>uk hB.zt nl hb ?_),λb hb=>by subst hb;exact aB (λ_=>hQ) (λh=>by cases h)⟩;exact decide_eq_true (hz.resolve_left hc)
  ·have hz1:a≠0:=λh=>hz (.inl h);have Xi:0∉zf nodes b.toNat:=λh=>hz (.inr h);by_cases hs:b=0\/a=1
   ·refine⟨nodes,unique,memo,a,⟨⟨hB,RA.refl _,ha,om⟩,hE,λt=>⟨λh=>⟨h,λhc=>?_⟩,λh=>h.1⟩⟩,λQ hQ=>?_⟩
    ·rcases hs with rfl|rfl;·rw[show(0:Int).toNat=0 from rfl,fJ]at hc;exact se hc
     ·rw[show(1:Int).toNat=1 from rfl,jA,mem_singleton]at h;subst h;obtain⟨u,hu,hs⟩:=hc;have:u=0:=rQ hs (nG u);subst this;exact Xi hu
    ·rw[aP];refine⟨λb=>b=false,bk (λhc=>absurd hc hz1) (λ_=>uk hB.zt nl hb (decide_eq_false Xi)),λb hb=>by
      subst hb;exact aB (λh=>by cases h) (λ_=>⟨λb=>b=true,bk (λ_=>rfl) (λhc=>by simpa using hs.resolve_left hc),λb hb=>by subst hb;exact aB (λ_=>hQ) (λh=>by cases h)⟩)⟩
   ·exfalso;have YI:b≠1:=λe=>Xi (by rw[e,show(1:Int).toNat=1 from rfl,jA];simp);have h2:2<=a:=om;obtain⟨hx,nn,e,_⟩:=hB.zt.ref ha h2;have:=hE _ _ hx;have:=nn.var;omega
 | succ k ih=>
  intro fu nodes unique memo a b UN hB hE ha hb hk hlen;obtain⟨fu,rfl⟩:∃f,fu=f+3:=⟨fu-3,om⟩;have p3:=Ps k;rw[pow_succ]at hlen;have nl:nodes.length<=1099511627776:=om;have h0:=ha.1;have h0':=hb.1;by_cases hz:a=0\/0∈zf nodes b.toNat
  ·refine⟨nodes,unique,memo,0,⟨⟨hB,RA.refl _,JL,om⟩,hE,λt=>?_⟩,λQ hQ=>?_⟩
   ·rw[show(0:Int).toNat=0 from rfl,fJ];refine⟨λh=>(by cases h),λ⟨h1,h2⟩=>?_⟩
    rcases hz with rfl|hz;·rw[show(0:Int).toNat=0 from rfl,fJ]at h1;exact h1
    ·exact absurd ⟨0,hz,nG t⟩ h2
   ·rw[aP];refine⟨λb=>b=true,bk (λ_=>rfl) (λhc=>uk hB.zt nl hb ?_),λb hb=>by subst hb;exact aB (λ_=>hQ) (λh=>by cases h)⟩;exact decide_eq_true (hz.resolve_left hc)
  have hz1:a≠0:=λh=>hz (.inl h);have Xi:0∉zf nodes b.toNat:=λh=>hz (.inr h);by_cases hs:b=0\/a=1
  ·refine⟨nodes,unique,memo,a,⟨⟨hB,RA.refl _,ha,om⟩,hE,λt=>⟨λh=>⟨h,λhc=>?_⟩,λh=>h.1⟩⟩,λQ hQ=>?_⟩
   ·rcases hs with rfl|rfl;·rw[show(0:Int).toNat=0 from rfl,fJ]at hc;exact se hc
    ·rw[show(1:Int).toNat=1 from rfl,jA,mem_singleton]at h;subst h;obtain⟨u,hu,hs⟩:=hc;have:u=0:=rQ hs (nG u);subst this;exact Xi hu
   ·rw[aP];refine⟨λb=>b=false,bk (λhc=>absurd hc hz1) (λ_=>uk hB.zt nl hb (decide_eq_false Xi)),λb hb=>by
     subst hb;exact aB (λh=>by cases h) (λ_=>⟨λb=>b=true,bk (λ_=>rfl) (λhc=>by simpa using hs.resolve_left hc),λb hb=>by subst hb;exact aB (λ_=>hQ) (λh=>by cases h)⟩)⟩
  have top:∀Q:List P'->Qa Int->Qa Int->Int->Prop,bD (fu+2) 119 a b a b nodes unique memo Q->aP (fu+3) a b nodes unique memo Q:=λQ hQ=>by
   rw[aP];refine⟨λb=>b=false,bk (λhc=>absurd hc hz1) (λ_=>uk hB.zt nl hb (decide_eq_false Xi)),λb hb=>by
    subst hb;exact aB (λh=>by cases h) (λ_=>⟨λb=>b=false,bk (λhc=>absurd (.inl hc) hs) (λ_=>by simpa using λh=>hs (.inr h)),λb hb=>by subst hb;exact aB (λh=>by cases h) (λ_=>hQ)⟩)⟩
  cases hm:bB memo [119,a,b]with
  | some r=>
   obtain⟨_,h2,h3⟩:=hB.mw a b r hm;refine⟨nodes,unique,memo,r,⟨⟨hB,RA.refl _,h2,om⟩,hE,h3⟩,λQ hQ=>top Q ?_⟩;rw[bD,hm];exact aB (λh=>by cases h) (λ_=>hQ)
  | none=>
   have YI:b≠1:=λe=>Xi (by rw[e,show(1:Int).toNat=1 from rfl,jA];simp);have a2:2<=a:=om;have b2:2<=b:=om;obtain⟨xa,na,ea,_⟩:=hB.zt.ref ha a2;obtain⟨xb,nb,eb,_⟩:=hB.zt.ref hb b2;have va:=hE _ _ xa;have vb:=hE _ _ xb;have na':=na.var;have nb':=nb.var;obtain⟨v,hv⟩:∃v:Nat,v=min (RV nodes a.toNat) (RV nodes b.toNat):=⟨_,rfl⟩;have WB:v<n:=om;have XW:v<24:=om;have adQ:min ((RV nodes a.toNat:Nat):Int) ((RV nodes b.toNat:Nat):Int)=(v:Int):=om;obtain⟨⟨va0,va1⟩,⟨la0,la1⟩,fa⟩:=Lw hB.zt ha XW om;obtain⟨⟨vb0,vb1⟩,⟨lb0,lb1⟩,fb⟩:=Lw hB.zt hb XW om;obtain⟨N1,u1,m1,X,⟨A1,E1,hX⟩,w1⟩:=ih fu (unique:=unique) (memo:=memo) (a:=Yv nodes a v) (b:=Yv nodes b v) om hB hE va0 vb0 om om;have L1:=A1.len;have af4:=va1.pre A1.pre;have af3:=vb0.pre A1.pre;obtain⟨N2,u2,m2,Y,⟨A2,E2,hY⟩,w2⟩:=ih fu (nodes:=N1) (unique:=u1) (memo:=m1) (a:=Xu nodes a v) (b:=Yv nodes b v) om A1.zb E1 af4 af3 (by rw[wT va1 A1.pre,wT vb0 A1.pre];omega) om;have L2:=A2.len;have XK:=A1.pre.trans A2.pre;have af2:=vb1.pre XK;rw[jY va1 A1.pre,jY vb0 A1.pre]at hY;have lY:v<RV N2 Y.toNat:=A2.zb.zt.Sn (L:=v+1) A2.vd.2 om λt ht i hi=>by have h1:=((hY t).1 ht).1;have:=(hB.zt.bits va1.2 t h1 i hi).1;omega
   obtain⟨N3,u3,m3,Z,⟨A3,E3,hZ⟩,w3⟩:=ih fu (nodes:=N2) (unique:=u2) (memo:=m2) (a:=Y) (b:=Xu nodes b v) om A2.zb E2 A2.vd af2 (by rw[show RV N2 (Xu nodes b v).toNat=RV nodes (Xu nodes b v).toNat from wT vb1 XK];omega) om;have L3:=A3.len;have XJ:=XK.trans A3.pre;rw[jY vb1 XK]at hZ;have p23:=A2.pre.trans A3.pre;have vX:=A1.vd.pre p23;have fX:zf N3 X.toNat=zf N1 X.toNat:=jY A1.vd p23;have lX:v<RV N3 X.toNat:=by rw[show RV N3 X.toNat=RV N1 X.toNat from wT A1.vd p23];exact A1.zb.zt.Sn (L:=v+1) A1.vd.2 om λt ht i hi=>by have h1:=((hX t).1 ht).1;have:=(hB.zt.bits va0.2 t h1 i hi).1;omega
   have lZ:v<RV N3 Z.toNat:=A3.zb.zt.Sn (L:=v+1) A3.vd.2 om λt ht i hi=>by have h1:=((hY t).1 ((hZ t).1 ht).1).1;have:=(hB.zt.bits va1.2 t h1 i hi).1;omega
   obtain⟨N4,u4,r,⟨A4,f4,z4⟩,w4⟩:=F9 A3.zb om (v:=(v:Int)) (lo:=X) (hi:=Z) ⟨om,om⟩ vX A3.vd (by rw[toNat_natCast];exact lX) (by rw[toNat_natCast];exact lZ);have L4:=A4.len;rw[toNat_natCast,fX]at f4;have clr:∀ {q:Int},Vd nodes q->v<RV nodes q.toNat->∀t,t∈zf nodes q.toNat->t.testBit v=false:=λhq hl t ht=>hB.zt.clear hq.2 hl ht;have fin:∀t,t∈zf N4 r.toNat↔t∈zf nodes a.toNat/\¬Rh (zf nodes b.toNat) t:=λt=>by rw[f4,fa,fb];exact Mm (clr va0 la0) (clr va1 la1) (clr vb0 lb0) (clr vb1 lb1) hX hY hZ t
   have XI:=XJ.trans A4.pre;have ahS:ZE n N4:=z4 n E3 om;refine⟨N4,u4,QL m3 [119,a,b] r,r,⟨⟨A4.zb.acP (ha.pre XI) (hb.pre XI) A4.vd λt=>?_,XI,A4.vd,by rw[pow_succ];omega⟩,ahS,fin⟩,λQ hQ=>top Q ?_⟩;·rw[jY ha XI,jY hb XI];exact fin t
   ·rw[bD,hm];refine aB (λ_=>?_) (λh=>by cases h);rw[cr];refine⟨_,BU hB.zt nl ha rfl,_,BU hB.zt nl hb rfl,?_⟩;rw[adQ];exact ER hB.zt nl ha XW (ER hB.zt nl hb XW ⟨N1,u1,m1,X,w1 _ ⟨rfl,rfl,rfl,rfl⟩,N2,u2,m2,Y,w2 _ ⟨rfl,rfl,rfl,rfl⟩,N3,u3,m3,Z,w3 _ ⟨rfl,rfl,rfl,rfl⟩,N4,u4,r,w4 _ ⟨rfl,rfl,rfl⟩,hQ⟩)
end
variable{refs:Qa Int}{z:Q4}
section
variable{nodes:List P'}{unique memo:Qa Int}
theorem DL(h:ZT nodes)(hE:ZE n nodes):∀ {r:Nat},r<2+nodes.length->∀t,t∈zf nodes r->t<2^n:=by
 intro r;induction r using strongRecOn with
 | ind r ih=>
  intro hr t ht;by_cases h2:r<2
  ·rcases (by omega:r=0\/r=1)with rfl|rfl;·grind [fJ]
   ·grind [jA]
  ·have hv:Vd nodes (r:Int):=⟨om,by rw[toNat_natCast];exact hr⟩;obtain⟨hx,nn,_,e3⟩:=h.ref hv om;have:=hE _ _ hx;have v0:=nn.var;have l:=nn.lo;have k:=nn.hi;rw[toNat_natCast]at e3;rw[e3,mem_append]at ht;rcases ht with ht|ht;·exact ih _ om om t ht
   ·obtain⟨u,hu,rfl⟩:=List.mem_map.1 ht;exact D9 (ih _ om om u hu) (Nat.pow_lt_pow_right (by decide) om)
theorem DM(hn:n<=8)(h:ZT nodes)(hE:ZE n nodes)(hr:Vd nodes r):(zf nodes r.toNat).length<=256:=by have:=List.Nodup.length_le_of_subset (l₁:=zf nodes r.toNat) (l₂:=range 256) (h.nodup hr.2) (λt ht=>List.mem_range.2 (lt_of_lt_of_le (DL h hE hr.2 t ht) (pow_le_pow_right (n:=2) (j:=8) (by decide) hn)));simpa using this
theorem Lv(hn:n<=8):∀(k fu:Nat) {memo:Qa Int} {a:Int},3*k+1<=fu->ZB nodes unique memo->ZE n nodes->nodes.length<=1099511627776->Vd nodes a->a.toNat<=k+1->∃m',ZB nodes unique m'/\∀Q:Qa Int->Int->Prop,Q m' ((zf nodes a.toNat).length:Int)->bg fu a nodes unique memo Q:=by
 intro k;induction k using strongRecOn with
 | ind k ih=>
  intro fu memo a UN hB hE nl ha hk;obtain⟨fu,rfl⟩:∃f,fu=f+1:=⟨fu-1,om⟩;have h0:=ha.1;by_cases h2:a<2
  ·refine⟨memo,hB,λQ hQ=>?_⟩;rw[bg];refine Qb (λ_=>?_) (λhc=>absurd h2 hc);rcases (show a=0\/a=1 by omega)with rfl|rfl;·grind [fJ]
   ·grind [jA]
  obtain⟨fu,rfl⟩:∃f,fu=f+2:=⟨fu-2,om⟩;have top:∀Q:Qa Int->Int->Prop,bC (fu+2) 99 a 0 a nodes unique memo Q->bg (fu+2+1) a nodes unique memo Q:=λQ hQ=>by grind [bg,Qb]
  cases hm:bB memo [99,a,0]with
  | some r=>
   obtain⟨_,h3⟩:=hB.mc a 0 r hm;refine⟨memo,hB,λQ hQ=>top Q ?_⟩;rw[bC,hm];refine aB (λh=>by cases h) (λ_=>?_)
   rw[<-h3]at hQ;exact hQ
  | none=>
   obtain⟨hx,nn,_,e3⟩:=hB.zt.ref ha om;have l:=nn.lo;have q:=nn.hi;have h1:=ha.2;have vl:Vd nodes (P9 nodes (a-2)).F:=⟨l.1,om⟩;have vh:Vd nodes (P9 nodes (a-2)).D:=⟨q.1,om⟩;obtain⟨m1,B1,w1⟩:=ih (k-1) om fu (memo:=memo) (a:=(P9 nodes (a-2)).F) om hB hE nl vl om;obtain⟨m2,B2,w2⟩:=ih (k-1) om fu (memo:=m1) (a:=(P9 nodes (a-2)).D) om B1 hE nl vh om;have f1:=DM hn hB.zt hE vl;have f2:=DM hn hB.zt hE vh;have e4:(zf nodes a.toNat).length=(zf nodes (P9 nodes (a-2)).F.toNat).length+(zf nodes (P9 nodes (a-2)).D.toNat).length:=by simp_all
   refine⟨QL m2 [99,a,0] ((zf nodes a.toNat).length:Int),B2.acQ ha rfl,λQ hQ=>top Q ?_⟩;rw[bC,hm];refine aB (λ_=>?_) (λh=>by cases h);rw[cE];refine⟨Qo,⟨om,om⟩,m1,_,w1 _ ⟨rfl,rfl⟩,m2,_,w2 _ ⟨rfl,rfl⟩,Qo,?_⟩;rw[show((zf nodes (P9 nodes (a-2)).F.toNat).length:Int)+((zf nodes (P9 nodes (a-2)).D.toNat).length:Int)=((zf nodes a.toNat).length:Int)by omega];exact hQ
theorem NP(hn:n<=8):∀(k fu:Nat) {a:Int} {s:Nat} {u:List Nat},k<fu->ZT nodes->ZE n nodes->nodes.length<=1099511627776->Vd nodes a->a.toNat<=k+1->s<2^n->u.length+(zf nodes a.toNat).length<=1099511627776->∀Q:List Int->Prop,Q (up (u++(zf nodes a.toNat).map λt=>s ||| t))->bL fu a (s:Int) (up u) nodes unique memo Q:=by
 intro k;induction k using strongRecOn with
 | ind k ih=>
  intro fu a s u UN hT hE nl ha hk hs hl Q hQ;obtain⟨fu,rfl⟩:∃f,fu=f+1:=⟨fu-1,om⟩;have h0:=ha.1;rw[bL];refine Qb (λh2=>?_) (λh2=>?_)
  ·rcases (show a=0\/a=1 by omega)with rfl|rfl
   ·refine bk (λhc=>by cases hc) (λ_=>?_)
    rw[show(0:Int).toNat=0 from rfl,fJ]at hQ;simpa using hQ
   ·refine bk (λ_=>?_) (λhc=>absurd rfl hc);rw[show(1:Int).toNat=1 from rfl,jA]at hQ hl;refine⟨by rw[length_append,cC];simp at hl ⊢;omega,?_⟩;simpa[up]using hQ
  ·obtain⟨hx,nn,_,e3⟩:=hT.ref ha om;have l:=nn.lo;have q:=nn.hi;have h1:=ha.2;have v:=nn.var;have vn:=hE _ _ hx;have vl:Vd nodes (P9 nodes (a-2)).F:=⟨l.1,om⟩;have vh:Vd nodes (P9 nodes (a-2)).D:=⟨q.1,om⟩;have e4:(zf nodes a.toNat).length=(zf nodes (P9 nodes (a-2)).F.toNat).length+(zf nodes (P9 nodes (a-2)).D.toNat).length:=by simp_all
   have hp:=km (show(P9 nodes (a-2)).T.toNat<8 by omega);have Vs:(2:Nat)^n<=256:=pow_le_pow_right (n:=2) (j:=8) (by decide) hn;have hor:bits .or .i64 (s:Int) (1*2^(toNat ((P9 nodes (a-2)).T)))=((s ||| 2^(P9 nodes (a-2)).T.toNat:Nat):Int):=by rw[rl v.1];exact mg (oF om) (oF hp)
   refine⟨Qo,⟨om,om⟩,ih (k-1) om fu om hT hE nl vl om hs om _ ⟨⟨om,by rw[rl v.1];exact xR hp⟩,?_⟩⟩;rw[hor];refine⟨_,ih (k-1) om fu om hT hE nl vh om (D9 hs (Nat.pow_lt_pow_right (by decide) om)) (by rw[length_append,length_map];omega) _ rfl,?_⟩;rw[e3]at hQ;rw[show u++List.map (λt=>s ||| t) (zf nodes (P9 nodes (a-2)).F.toNat)++List.map (λt=>(s ||| 2^(P9 nodes (a-2)).T.toNat) ||| t) (zf nodes (P9 nodes (a-2)).D.toNat)=u++(zf nodes (P9 nodes (a-2)).F.toNat++(zf nodes (P9 nodes (a-2)).D.toNat).map λt=>t ||| 2^(P9 nodes (a-2)).T.toNat).map λt=>s ||| t from ?_];·exact hQ
   ·rw[map_append,map_map,List.append_assoc];congr 2;exact map_congr_left λt _=>by grind
theorem wl(hT:ZT nodes)(nl:nodes.length<=1099511627776){root:Int}:∀(k fu:Nat) {refs:Qa Int} {b:List Int} {M:List P'} {r:Int},k<fu->Vd nodes r->r.toNat<=k+1->EZ nodes refs b M->
  ∃(T2:Qa Int) (M':List P') (x:Int),(EZ nodes T2 (QY nodes r.toNat b) M'/\bB T2 [r]=some x/\∀q y,bB refs [q]=some y->bB T2 [q]=some y)/\
   ∀Q:Qa Int->List P'->Int->Prop,Q T2 M' x->bv fu r root refs M nodes unique memo Q:=by
 intro k;induction k using strongRecOn with
 | ind k ih=>
  intro fu refs b M r UN hr hk hE;obtain⟨fu,rfl⟩:∃f,fu=f+1:=⟨fu-1,om⟩;have h0:=hr.1;have h1:=hr.2;cases hm:bB refs [r]with
  | some x=>
   refine⟨refs,M,x,⟨?_,hm,λ_ _ h=>h⟩,λQ hQ=>?_⟩
   ·rcases (hE.re r x).1 hm with⟨_,h3,_⟩|⟨j,hj,_⟩;·grind [iC]
    ·grind [iC]
   ·grind [bv,aB]
  | none=>
   have h2:2<=r:=by
    by_cases h2:r<2;·have:=(hE.re r r).2 (.inl ⟨h0,h2,rfl⟩);rw[hm]at this;cases this
    ·omega
   obtain⟨hx,nn,_,_⟩:=hT.ref hr h2;have l:=nn.lo;have q:=nn.hi;have er:r=((2+(r-2).toNat:Nat):Int):=om;have ern:r.toNat=2+(r-2).toNat:=om;have hnb:((2+(r-2).toNat:Nat):Int)∉b:=λhc=>by rw[<-er]at hc;obtain⟨j,hj⟩:=List.mem_iff_getElem?.1 hc;have:=(hE.re r _).2 (.inr ⟨j,hj,rfl⟩);rw[hm]at this;cases this
   obtain⟨r1,M1,y1,⟨E1,g1,k1⟩,w1⟩:=ih (k-1) om fu (refs:=refs) (b:=b) (M:=M) (r:=(P9 nodes (r-2)).F) om ⟨l.1,om⟩ om hE;obtain⟨r2,M2,y2,⟨E2,g2,k2⟩,w2⟩:=ih (k-1) om fu (refs:=r1) (b:=QY nodes (P9 nodes (r-2)).F.toNat b) (M:=M1) (r:=(P9 nodes (r-2)).D) om ⟨q.1,om⟩ om E1;obtain⟨c1,d1,e1⟩:=oa hT.kids (P9 nodes (r-2)).F.toNat b;obtain⟨c2,d2,e2⟩:=oa hT.kids (P9 nodes (r-2)).D.toNat (QY nodes (P9 nodes (r-2)).F.toNat b);have ag5:((2+(r-2).toNat:Nat):Int)∉QY nodes (P9 nodes (r-2)).D.toNat (QY nodes (P9 nodes (r-2)).F.toNat b):=λhc=>by
    rw[d2,d1,mem_append,mem_append]at hc;rcases hc with(hc|hc)|hc;·exact hnb hc
    ·have:=e1 _ hc;omega
    ·have:=e2 _ hc;omega
   have hN:=E2.node hx (k2 _ _ g1) g2 ag5;have UX:M2.length=(QY nodes (P9 nodes (r-2)).D.toNat (QY nodes (P9 nodes (r-2)).F.toNat b)).length:=E2.ml;have Zk:(QY nodes (P9 nodes (r-2)).D.toNat (QY nodes (P9 nodes (r-2)).F.toNat b)).length<=nodes.length:=by
    have hs:∀z∈QY nodes (P9 nodes (r-2)).D.toNat (QY nodes (P9 nodes (r-2)).F.toNat b),z∈upto nodes.length:=λz hz=>by obtain⟨j,hj⟩:=List.mem_iff_getElem?.1 hz;obtain⟨i,x,_,_,e,V7,_⟩:=E2.mm j z hj;have:=(List.getElem?_eq_some_iff.1 V7).1;rw[pQ];omega
    have:=E2.nd.length_le_of_subset hs;rwa[pt]at this
   have hlen:(M2++[(⟨(P9 nodes (r-2)).T,y1,y2⟩:P')]).length=M2.length+1:=by rw[length_append];rfl
   refine⟨QL r2 [r] ((2+M2.length:Nat):Int),M2++[(⟨(P9 nodes (r-2)).T,y1,y2⟩:P')],((2+M2.length:Nat):Int),⟨?_,?_,λq' y hq=>?_⟩,λQ hQ=>?_⟩;·rw[ern,lE hT.kids hx hnb,UX];rw[<-er]at hN ⊢;exact hN
   ·rw[bH,if_pos rfl]
   ·rw[bH,if_neg (λe=>by rw[e,hm]at hq;cases hq)];exact k2 _ _ (k1 _ _ hq)
   ·rw[bv,hm];refine aB (λh=>by cases h) (λ_=>⟨Qo,⟨om,om⟩,w1 _ (w2 _ ⟨by rw[hlen];omega,by rw[hlen];unfold Qe;omega,?_⟩)⟩);rw[hlen,bH,if_pos rfl,show(1+((M2.length+1:Nat):Int))=((2+M2.length:Nat):Int)by omega];exact hQ
structure aiu(T:List P')(r:Int)(z:Q4):Prop where
 zt:ZT z.N
 vd:Vd z.N z.V
 zf:zf z.N z.V.toNat=Gg.zf T r.toNat
 ag:QY z.N z.V.toNat []=upto z.N.length
 le:z.N.length<=T.length
 vr:∀n,ZE n T->ZE n z.N
theorem OP{T M:List P'}{b:List Int}(h:EZ T refs b M):b.length<=T.length:=by
 have hs:∀z∈b,z∈upto T.length:=λz hz=>by obtain⟨j,hj⟩:=List.mem_iff_getElem?.1 hz;obtain⟨i,x,_,_,e,V7,_⟩:=h.mm j z hj;have:=(List.getElem?_eq_some_iff.1 V7).1;rw[pQ];omega
 have:=h.nd.length_le_of_subset hs;rwa[pt]at this
theorem OO{T M:List P'}{b:List Int}(h:EZ T refs b M)(hE:ZE n T):ZE n M:=λj m hm=>by obtain⟨i,x,_,_,_,e2,_,_,rfl,_⟩:=h.mem hm;exact hE i x e2
theorem Ha(hT:ZT nodes)(nl:nodes.length<=1099511627776)(hr:Vd nodes r):∃z,aiu nodes r z/\∀Q:Q4->Prop,Q z->dM r nodes unique memo Q:=by obtain⟨refs,M,x,⟨hE,hg,_⟩,w⟩:=wl (unique:=unique) (memo:=memo) hT nl (root:=0) r.toNat (r.toNat+1) (refs:=QL (QL (de:Qa Int) [0] 0) [1] 1) (b:=[]) (M:=[]) (r:=r) om hr om EZ.start;have hp:=hE.pos hg;have UX:=hE.ml;refine⟨⟨M,x⟩,⟨hE.zt hT,⟨hp.2.1,by show x.toNat<2+M.length;omega⟩,hE.zf hT (r.toNat+1) om hg,?_,by show M.length<=_;rw[UX];exact OP hE,λn=>OO hE⟩,λQ hQ=>⟨r.toNat+1,w _ hQ⟩⟩;have:=hE.again hT (r.toNat+1) 0 (QY nodes r.toNat []).length om hg (Nat.zero_le _) (le_refl _) (by rw[take_zero,take_length]);show QY M x.toNat []=upto M.length;rw[UX];exact this
theorem Ej(hB:ZB nodes unique memo)(hb:nodes.length+1<=1099511627776)(QI:x.D≠0)(hn:x∉nodes){Q:List P'->Qa Int->Int->Prop}(hQ:Q (nodes++[x]) (QL unique [x.T,x.F,x.D] (2+(nodes.length:Int))) (2+(nodes.length:Int))):cA x.T x.F x.D nodes unique memo Q:=by
 have hm:bB unique [x.T,x.F,x.D]=none:=by
  cases hm:bB unique [x.T,x.F,x.D]with
  | none=>rfl
  | some r=>
   obtain⟨i,_,hi⟩:=(hB.uq _ _ _ _).1 hm;exact absurd (List.mem_of_getElem? hi) hn
 refine bk (λhc=>absurd hc QI) (λ_=>?_)
 rw[hm];exact aB (λ_=>⟨Qo,by rw[length_append];simp;omega,hQ⟩) (λh=>by cases h)
theorem AZ(hT:ZT z.N)(hv:Vd z.N z.V)(hl:z.N.length<=1099511627775){Q:List P'->Qa Int->Int->Prop}(hQ:∀u',ZB z.N u' de->Q z.N u' z.V):dB z ([]:List P') de de Q:=by
 have h0:=hv.1;have h1:=hv.2;have hlen:((bA (2+(z.N.length:Int)) (0:Int)).length:Int)=2+z.N.length:=oQ om;refine⟨Qo,⟨om,om,om,om⟩,om,?_⟩
 refine bu (n:=z.N.length) (λi y=>(y.1=(i:Int)/\(y.2.1.length:Int)=2+z.N.length)/\y.2.2.1=z.N.take i/\ZB y.2.2.1 y.2.2.2 de/\∀k:Nat,k<2+i->P9 y.2.1 (k:Int)=(k:Int)) (λy=>y.1) 0
  (λi y hy=>by rw[hy.1.1];omega) ⟨⟨rfl,by (try dsimp only);rw[ck];exact hlen⟩,rfl,ZB.nil,λk hk=>?_⟩ ?_ ?_
 ·try dsimp only
  rw[show(1:Int)=((1:Nat):Int)from rfl,dO om];split;·rename_i he;rw[he]
  ·grind [BC]
 ·rintro i ⟨x,refs,n1,u1⟩ next hi ⟨⟨hx,Vj⟩,W1,hB,hI⟩ hn
  dsimp only at hx Vj W1 hB hI;subst hx W1;have hg:=kQ hi;obtain⟨v,lo,Q9,ne,llo,lhi⟩:=hT.nd i _ hg;have YC:(z.N.take i).length=i:=by rw[length_take];omega
  have elo:=hI (P9 z.N (i:Int)).F.toNat om;have ehi:=hI (P9 z.N (i:Int)).D.toNat om;rw[show(((P9 z.N (i:Int)).F.toNat:Nat):Int)=(P9 z.N (i:Int)).F by omega]at elo;rw[show(((P9 z.N (i:Int)).D.toNat:Nat):Int)=(P9 z.N (i:Int)).D by omega]at ehi;have adI:P9 z.N (i:Int)∉z.N.take i:=λhc=>by
   obtain⟨j,hj⟩:=List.mem_iff_getElem?.1 hc;have YG:j<i:=by have:=(List.getElem?_eq_some_iff.1 hj).1;omega
   rw[List.getElem?_take_of_lt YG]at hj;have:=hT.Yn j i _ hj hg;omega
  have adA:z.N=z.N.take i++z.N.drop i:=(List.take_append_drop i z.N).symm;have lv:∀ {q:Int},0<=q->q<2+i->RV (z.N.take i) q.toNat=RV z.N q.toNat:=λ{q} a b=>by grind [kr,id]
  obtain⟨B2,_,_⟩:=hB.TA (v:=(P9 z.N (i:Int)).T) (lo:=(P9 z.N (i:Int)).F) (hi:=(P9 z.N (i:Int)).D) v ⟨lo.1,om⟩ ⟨Q9.1,om⟩ ne (by rw[lv lo.1 lo.2];exact llo) (by rw[lv Q9.1 Q9.2];exact lhi) (by
   cases hm:bB u1 [(P9 z.N (i:Int)).T,(P9 z.N (i:Int)).F,(P9 z.N (i:Int)).D]with
   | none=>rfl
   | some r=>
    obtain⟨j,_,hj⟩:=(hB.uq _ _ _ _).1 hm;exact absurd (List.mem_of_getElem? hj) adI)
  refine Qb (λ_=>⟨⟨om,om⟩,Qo,⟨om,om⟩,⟨om,om⟩,?_⟩) (λhc=>absurd om hc);rw[elo,ehi];refine⟨_,_,_,Ej hB om ne adI ⟨rfl,rfl,rfl⟩,⟨om,om⟩,Qo,hn _ ⟨⟨by (try dsimp only);omega,by (try dsimp only);rw[ck];exact Vj⟩,?_,B2,λk hk=>?_⟩⟩;·grind [List.take_add_one]
  ·try dsimp only
   rw[YC,show(2+(i:Int))=((2+i:Nat):Int)by omega,dO om];split;·rename_i he;rw[he]
   ·exact hI k om
 ·grind [Qb]
end
structure akx(n k:Nat)(l:List Int):Prop where
 len:l.length=k
 nd:l.Nodup
 rg:∀v∈l,0<=v/\v<n
variable{nodes:List P'}
section
variable{d:Qs}{o:List Int}
theorem Dz{place:List Int}{unique memo:Qa Int}{Q:List P'->Qa Int->Qa Int->Int->Prop}(hd:VD d)(h:TS o place nodes unique memo)(Sr:o.length=d.M.length)(hb:nodes.length+d.N.length*(2^o.length+1)<=1099511627776)(hQ:∀Qm Qq QE r,After o place nodes Qm Qq QE r (dF d) (d.N.length*(2^o.length+1))->Q Qm Qq QE r):dW d o place nodes unique memo Q:=by
 have hl:=hd.le;have hle:=hd.ord.le;refine⟨Qo,⟨om,om,om,om⟩,om,?_⟩;have hlen:((bA (2+(d.N.length:Int)) (0:Int)).length:Int)=2+d.N.length:=oQ om;obtain⟨P,hPw⟩:∃P,P=2^o.length:=⟨_,rfl⟩;obtain⟨C,hC⟩:∃C,C=P+1:=⟨_,rfl⟩;rw[<-hPw,<-hC]at hb hQ
 refine bu (n:=d.N.length) (λi y=>(y.1=(i:Int)/\(y.2.1.length:Int)=2+d.N.length)/\TS o place y.2.2.1 y.2.2.2.1 y.2.2.2.2/\RA nodes y.2.2.1/\y.2.2.1.length<=nodes.length+i*C/\∀k:Nat,k<2+i->Vd y.2.2.1 (P9 y.2.1 (k:Int))/\dn y.2.2.1 (P9 y.2.1 (k:Int))=λσ=>den d.N σ k) (λy=>y.1) 0
  (λi y hy=>by rw[hy.1.1];omega) ⟨⟨rfl,by dsimp only;rw[ck];exact hlen⟩,h,RA.refl _,by simp,λk hk=>?_⟩ ?_ ?_
 ·dsimp only;rw[show(1:Int)=((1:Nat):Int)from rfl,dO om];split;·rename_i he;subst he;exact⟨YZ,by rw[show(((1:Nat):Int))=1 from rfl,W9];funext σ;rw[kG]⟩
  ·rw[BC om];obtain rfl:k=0:=om;exact⟨Y0,by rw[W_];funext σ;rw[jq]⟩
 ·rintro i ⟨x,refs,n1,u1,m1⟩ next hi ⟨⟨hx,Vj⟩,hT,hP,W1,hI⟩ hn
  dsimp only at hx Vj hT hP W1 hI;subst hx;have hg:=kQ hi;obtain⟨a,b,c,e,f,g⟩:=hd.wt.nd i _ hg;obtain⟨l0,adX⟩:∃k:Nat,(P9 d.N (i:Int)).F=k:=⟨(P9 d.N (i:Int)).F.toNat,om⟩;obtain⟨h0,Sx⟩:∃k:Nat,(P9 d.N (i:Int)).D=k:=⟨(P9 d.N (i:Int)).D.toNat,om⟩;have q1:=hI l0 om;have q2:=hI h0 om;have hmul:(i+1)*C<=d.N.length*C:=Nat.mul_le_mul_right _ hi;rw[Nat.succ_mul]at hmul;obtain⟨n2,u2,r,hA,w2⟩:=Cg hT om (v:=(P9 d.N (i:Int)).T) (by rw[Sr];exact a);have hA':=hA.le;obtain⟨n3,u3,m3,r3,hB,w3⟩:=kS hA.ts (by rw[<-hPw];omega) (c:=r) (a:=P9 refs (h0:Int)) (b:=P9 refs (l0:Int)) hA.vd (q2.1.pre hA.pre) (q1.1.pre hA.pre);have hB':=hB.le;rw[<-hPw]at hB';refine Qb (λ_=>⟨⟨om,om⟩,Qo,n2,u2,r,w2 _ ⟨rfl,rfl,rfl⟩,⟨om,om⟩,⟨om,om⟩,?_⟩) (λhc=>absurd (show(i:Int)<d.N.length by omega) hc);rw[adX,Sx];refine⟨n3,u3,m3,r3,w3 _ ⟨rfl,rfl,rfl,rfl⟩,⟨om,om⟩,Qo,hn _ ⟨⟨by dsimp only;omega,by dsimp only;rw[ck];exact Vj⟩,hB.ts,(hP.trans hA.pre).trans hB.pre,by dsimp only;rw[Nat.succ_mul];omega,λk hk=>?_⟩⟩;dsimp only;rw[show(2+(i:Int))=((2+i:Nat):Int)by omega,dO om];split;·rename_i he;subst he;refine⟨hB.vd,?_⟩;funext σ;rw[hB.dn,hA.dn,cG q2.1 hA.pre,cG q1.1 hA.pre,q1.2,q2.2,hd.wt.SF hg];simp only;rw[adX,Sx,toNat_natCast,toNat_natCast]
  ·have q:=hI k om;have hp:=hA.pre.trans hB.pre;exact⟨q.1.pre hp,by rw[cG q.1 hp];exact q.2⟩
 ·rintro⟨x,refs,n1,u1,m1⟩ next ⟨⟨hx,Vj⟩,hT,hP,W1,hI⟩
  dsimp only at hx Vj hT hP W1 hI;subst hx;have r0:=hd.root.1;have r1:=hd.root.2;obtain⟨k,hk⟩:∃k:Nat,d.V=k:=⟨d.V.toNat,om⟩;refine Qb (λhc=>absurd hc om) (λ_=>⟨⟨om,om⟩,?_⟩)
  have q:=hI k om;refine hQ _ _ _ _ ⟨hT,hP,by rw[hk];exact q.1,?_,W1⟩;rw[hk,q.2];funext σ;unfold dF dn;rw[hk,toNat_natCast]
end
section
variable{o:List Int}
end
def JB(f:GFormula):Prop:=∀s s':Nat,s<4294967296->s'<4294967296->(∀i,s.testBit i=true->s'.testBit i=true)->FV f s=true->FV f s'=true
theorem Do{x:QN}{v v':List Bool}:∀n,(∀j:Nat,j<n->P9 v (P9 x.Z (j:Int))=true->P9 v' (P9 x.Z (j:Int))=true)->TM x v n<=TM x v' n
 | 0,_=>le_refl _
 | n+1,h=>by
  have h1:=Do n λj hj=>h j om;rw[TM,TM];have h2:=h n om;by_cases hv:P9 v (P9 x.Z (n:Int))=true;·rw[if_pos hv,if_pos (h2 hv)];omega
  ·rw[if_neg hv];omega
structure abw(f:GFormula)(mark:List Bool):Prop where
 top:P9 mark f.A=true
 args:∀t:Nat,t<f.N.length->P9 mark (f.Y+t)=true->∀j:Nat,j<(P9 f.N (t:Int)).Z.length->P9 mark (P9 (P9 f.N (t:Int)).Z (j:Int))=true
variable{f:GFormula}
theorem KH(g:FG f){mark:List Bool}(hb:abw f mark)(hk:∀t:Nat,t<f.N.length->P9 mark (f.Y+t)=true->(P9 f.N (t:Int)).U≠1/\(P9 f.N (t:Int)).U≠5):JB f:=by
 intro s s' _ _ hss;have v0:=g.v0;have key:∀a:Nat,(a:Int)<f.Y+f.N.length->P9 mark (a:Int)=true->P9 (cK f s f.N.length) (a:Int)=true->P9 (cK f s' f.N.length) (a:Int)=true:=by
  intro a;induction a using strongRecOn with
  | _ a ih=>
   intro ha hm hv;rcases Int.lt_or_le (a:Int) f.Y with h1|h1;·rw[mj om h1,Ta,toNat_natCast]at hv ⊢;exact hss a hv
   ·obtain⟨t,rfl⟩:∃t:Nat,a=f.Y.toNat+t:=⟨a-f.Y.toNat,om⟩;have e:((f.Y.toNat+t:Nat):Int)=f.Y+t:=om;rw[e]at hm hv ⊢;have ht:t<f.N.length:=om;have N:=dq (g.node t ht);have arg:∀(u:Nat) (j:Nat),j<(P9 f.N (t:Int)).Z.length->P9 (cK f u t) (P9 (P9 f.N (t:Int)).Z (j:Int))=P9 (cK f u f.N.length) (P9 (P9 f.N (t:Int)).Z (j:Int)):=λu j hj=>by have:=N.arg j hj;exact(iv (m:=t) this.1 om f.N.length om).symm
    have hc:TM (P9 f.N (t:Int)) (cK f s t) (P9 f.N (t:Int)).Z.length<=TM (P9 f.N (t:Int)) (cK f s' t) (P9 f.N (t:Int)).Z.length:=Do _ λj hj=>by rw[arg s j hj,arg s' j hj];have ha2:=N.arg j hj;obtain⟨b,V0⟩:=Int.eq_ofNat_of_zero_le ha2.1;have VX:=hb.args t ht hm j hj;rw[V0]at VX ha2 ⊢;exact ih b om om VX
    rw[nE v0 ht]at hv ⊢;unfold kY gM at hv ⊢;have hle:=Ez (x:=P9 f.N (t:Int)) (v:=cK f s' t) (P9 f.N (t:Int)).Z.length;obtain⟨k1,k5⟩:=hk t ht hm;have n0:=N.k0;have n5:=N.k5;by_cases h0:(P9 f.N (t:Int)).U=0;·rw[if_pos h0]at hv ⊢;exact hv
    rw[if_neg h0,if_neg k1]at hv ⊢;by_cases h2:(P9 f.N (t:Int)).U=2;·rw[if_pos h2]at hv ⊢;simp only[beq_iff_eq]at hv ⊢;omega
    rw[if_neg h2]at hv ⊢;by_cases h3:(P9 f.N (t:Int)).U=3;·rw[if_pos h3]at hv ⊢;simp only[decide_eq_true_eq]at hv ⊢;omega
    rw[if_neg h3]at hv ⊢;by_cases h4:(P9 f.N (t:Int)).U=4;·rw[if_pos h4]at hv ⊢;simp only[decide_eq_true_eq]at hv ⊢;omega
    ·omega
 intro hv;obtain⟨a,ha⟩:=Int.eq_ofNat_of_zero_le g.Sd;have Ue:=g.top;have hm:=hb.top;unfold FV at hv ⊢;rw[ha]at hv hm Ue ⊢;exact key a Ue hm hv
theorem OQ{T M:List P'}(h:EZ T refs (upto T.length) M):M=T/\∀q x,bB refs [q]=some x->x=q:=by
 have at_:∀j,j<T.length->(upto T.length)[j]? = some ((2+j:Nat):Int):=λj hj=>by simp[upto,hj]
 have Zh:∀q x,bB refs [q]=some x->x=q:=λq x hq=>by
  rcases (h.re q x).1 hq with⟨_,_,h3⟩|⟨j,hj,h3⟩;·exact h3
  ·grind [pt]
 have UX:=h.ml;rw[pt]at UX;refine⟨List.ext_getElem? λj=>?_,Zh⟩
 by_cases hj:j<T.length;·obtain⟨i,x,y1,y2,e1,e2,e3,e4,e5,_⟩:=h.mm j _ (at_ j hj);obtain rfl:i=j:=om;have h1:=Zh _ _ e3;have h2:=Zh _ _ e4;subst h1 h2;rw[e5,e2]
 ·simp_all
theorem Jr(hT:ZT z.N)(hv:Vd z.N z.V)(ha:QY z.N z.V.toNat []=upto z.N.length){Q:Option Int->Prop}(h4:Q (some 4))(hQ:Q none):p' z Q:=by
 have h0:=hv.1;have h1:=hv.2;refine Qb (λ_=>h4) (λhle=>?_)
 refine bu (n:=z.N.length) (λi y=>y.1=(i:Int)/\∀v lo hi b,bB y.2 [v,lo,hi]=some b->∃j,j<i/\z.N[j]? = some ⟨v,lo,hi⟩) (λy=>y.1) 0 (λi y hy=>by rw[hy.1];omega) ⟨rfl,λv lo hi b h=>by simp[h_]at h⟩ ?_ ?_
 ·rintro i ⟨x,seen⟩ next hi ⟨hx,hS⟩ Q6
  dsimp only at hx hS;subst hx;have hg:=kQ hi;obtain⟨v,lo,Q9,ne,llo,lhi⟩:=hT.nd i _ hg;have behind:∀q:Int,0<=q->q<2+i->(P9 z.N (i:Int)).T.toNat<RV z.N q.toNat->2<=q->¬(P9 z.N (q-2)).T<=(P9 z.N (i:Int)).T:=λq q0 q1 ql q2=>by obtain⟨_,nn,e,_⟩:=hT.ref (r:=q) ⟨q0,om⟩ q2;have:=nn.var;omega
  refine Qb (λ_=>⟨om,?_⟩) (λhc=>absurd om hc);refine⟨λb=>b=false,Qb (λhc=>om) (λ_=>Qb (λhc=>om) (λ_=>Qb (λhc=>om) (λ_=>⟨Qo,decide_eq_false om⟩))),λb hb=>?_⟩;subst hb;refine aB (λh=>by cases h) (λ_=>bk (λhc=>absurd hc ne) (λ_=>?_))
  have hiB:af (decide (2<=(P9 z.N (i:Int)).D)) (Qe ((P9 z.N (i:Int)).D-2)/\((0:Int)<=((P9 z.N (i:Int)).D-2)/\((P9 z.N (i:Int)).D-2)<(z.N.length:Int))/\decide ((P9 z.N ((P9 z.N (i:Int)).D-2)).T<=(P9 z.N (i:Int)).T)=false) (false=false):=Qb (λh2=>⟨Qo,⟨om,om⟩,decide_eq_false (behind _ Q9.1 Q9.2 lhi h2)⟩) (λ_=>rfl)
  refine⟨λb=>b=false,Qb (λh2=>⟨Qo,⟨om,om⟩,Qb (λhc=>absurd hc (behind _ lo.1 lo.2 llo h2)) (λ_=>hiB)⟩) (λ_=>hiB),λb hb=>?_⟩;subst hb;refine aB (λh=>by cases h) (λ_=>?_)
  have hns:bB seen [(P9 z.N (i:Int)).T,(P9 z.N (i:Int)).F,(P9 z.N (i:Int)).D]=none:=by
   cases hm:bB seen [(P9 z.N (i:Int)).T,(P9 z.N (i:Int)).F,(P9 z.N (i:Int)).D]with
   | none=>rfl
   | some b=>
    obtain⟨j,hj,YG⟩:=hS _ _ _ _ hm;have:=hT.Yn j i _ YG hg;omega
  rw[hns];refine aB (λh=>by cases h) (λ_=>⟨Qo,Q6 _ ⟨by (try dsimp only);omega,λv lo hi b h=>?_⟩⟩);dsimp only at h;rw[jp]at h;split at h;·rename_i he;simp only[List.cons.injEq,and_true]at he;obtain⟨rfl,rfl,rfl⟩:=he;exact⟨i,om,hg⟩
  ·grind
 ·rintro⟨x,seen⟩ next ⟨hx,_⟩
  dsimp only at hx;subst hx;refine Qb (λhc=>absurd hc om) (λ_=>⟨λb=>b=false,Qb (λhc=>om) (λ_=>⟨Qo,decide_eq_false om⟩),λb hb=>?_⟩);subst hb;refine aB (λh=>by cases h) (λ_=>?_)
  unfold dl;refine AZ hT hv om λu' hB=>?_;obtain⟨refs,M,x,⟨hE,hg,_⟩,w⟩:=wl (unique:=u') (memo:=de) hT om (root:=0) z.V.toNat (z.V.toNat+1) (refs:=QL (QL (de:Qa Int) [0] 0) [1] 1) (b:=[]) (M:=[]) (r:=z.V) om hv om EZ.start;rw[ha]at hE;obtain⟨rfl,Zh⟩:=OQ hE;obtain rfl:=Zh _ _ hg;refine⟨z.V.toNat+1,w _ ⟨λb=>b=false,iY (λhc=>absurd rfl hc) (λ_=>iY (λhc=>absurd rfl hc) (λ_=>I2 (a:=z.N) (b:=z.N) (Q:=λr2=>(!r2)=false) (E:=λ(x y:P')=>!decide ([x.T,x.F,x.D]=[y.T,y.F,y.D])) (λ_ _=>O0) om rfl ?_)),λb hb=>by subst hb;exact aB (λh=>by cases h) (λ_=>hQ)⟩⟩
  simp
theorem Lg(hn:n<=8)(hT:ZT z.N)(hE:ZE n z.N)(hv:Vd z.N z.V)(hl:z.N.length<=1099511627775)(ha:QY z.N z.V.toNat []=upto z.N.length)(h4:Q [] (some 4))(hQ:∀m:List Nat,m.Pairwise qP->(∀t,t∈m↔t∈zf z.N z.V.toNat)->Q (up m) none):oK z Q:=by
 unfold oK oJ dl;have h0:=hv.1;have h1:=hv.2;refine bu (n:=1) (λi y=>y.1=(i:Int)/\(i=0->y=(0,[],de,[]))/\(i=1->∃u',ZB z.N u' de/\y=(1,[z.V],u',z.N))) (λy=>y.1) 0 (λi y hy=>by rw[hy.1];omega) ⟨rfl,λ_=>rfl,λh=>absurd h (by decide)⟩ ?_ ?_
 ·rintro i y next hi ⟨_,hy,_⟩ Q6
  obtain rfl:i=0:=om;have:=hy rfl;subst this;refine Qb (λ_=>⟨⟨om,by show(0:Int)<1;omega⟩,?_⟩) (λhc=>absurd (show(0:Int)<1 by omega) hc);refine Jr hT hv ha (aB (λ_=>?_) (λh=>by cases h)) (aB (λh=>by cases h) (λ_=>?_))
  ·exact⟨λ_=>aB (λ_=>h4) (λh=>by cases h),λx h=>(by cases h)⟩
  ·exact AZ hT hv hl λu' hB=>⟨by rw[length_append];exact(by decide:(0+1)*8<=140737488355328),Qo,Q6 _ ⟨rfl,λh=>absurd h (by decide),λ_=>⟨u',hB,rfl⟩⟩⟩
 ·rintro y next ⟨_,_,hy⟩
  obtain⟨u',hB,rfl⟩:=hy rfl;refine Qb (λhc=>absurd hc (show ¬(1:Int)<1 by omega)) (λ_=>⟨λh=>(by cases h),λx hx=>?_⟩);cases hx;refine aB (λh=>by cases h) (λ_=>⟨by simp,?_⟩);have e0:P9 [z.V] 0=z.V:=rfl;have few:=DM hn hT hE hv;obtain⟨m',B',w⟩:=Lv (memo:=de) hn z.V.toNat (3*z.V.toNat+1) (a:=z.V) (le_refl _) hB hE om hv om;rw[e0];refine⟨_,w _ (Qb (λhc=>absurd hc om) (λ_=>⟨by simp,?_⟩))⟩;have nd:=hT.nodup hv.2;have Vs:∀t∈zf z.N z.V.toNat,t<256:=λt ht=>lt_of_lt_of_le (DL hT hE hv.2 t ht) (pow_le_pow_right (n:=2) (j:=8) (by decide) hn);refine⟨z.V.toNat+1,NP hn z.V.toNat _ (a:=z.V) (s:=0) (u:=[]) om hT hE om hv om (pow_pos (by decide)) (by simp;omega) _ ?_⟩;rw[List.nil_append,show(zf z.N z.V.toNat).map (λt=>0 ||| t)=zf z.N z.V.toNat by simp];refine⟨λv hv2=>?_,by rw[cC];omega,λy hp hs=>?_⟩;·obtain⟨t,ht,rfl⟩:=Bh.1 hv2;have:=Vs t ht;exact⟨om,om⟩
  ·obtain⟨m,rfl,hm,TT⟩:=xH Vs hp hs;have hnd:m.Nodup:=hm.nodup_iff.2 nd;rw[List.Nodup]at hnd;exact⟨hp.length_eq,hQ m ((TT.and hnd).imp λh=>h.1.resolve_right h.2) λt=>hm.mem_iff⟩
def Aa(F:R7->Bool):Prop:=∀σ τ:R7,(∀i,σ i=true->τ i=true)->F σ=true->F τ=true
section
variable{o place:List Int}{T:List P'}{tu tm:Qa Int}
structure Wt(o:List Int)(T:List P')(r:Int)(N:List P')(x:Int):Prop where
 vd:Vd N x
 cv:∀s,Rh (zf N x.toNat) s↔dn T r (V5 s)=true
 an:y_ (zf N x.toNat)
 lv:∀t,t∈zf N x.toNat->∀i,t.testBit i=true->RL o T r<=i
theorem Wt.pre{r x:Int}{N N':List P'}(h:Wt o T r N x)(hp:RA N N'):Wt o T r N' x:=⟨h.vd.pre hp,by rw[jY h.vd hp];exact h.cv,by rw[jY h.vd hp];exact h.an,by rw[jY h.vd hp];exact h.lv⟩
def SD(o:List Int)(T N:List P')(done:Qa Int):Prop:=∀r x,bB done [r]=some x->Wt o T r N x
theorem SD.pre{N N':List P'}{done:Qa Int}(h:SD o T N done)(hp:RA N N'):SD o T N' done:=λr x hm=>(h r x hm).pre hp
def NO(o:List Int):Prop:=∀v,v<o.length->eU o v=v
theorem FE(hT:TS o place T tu tm)(hr:Vd T r)(hv:v<o.length)(hl:eU o v<=RL o T r)(hm:Aa (dn T r))(b:Bool):Aa (dn T (Vf o T r (eU o v) b)):=λσ τ Uf h=>by
 rw[BP hT hr hv hl]at h ⊢;refine hm _ _ (λi hi=>?_) h;unfold cF at hi ⊢;split;·simp_all
 ·simp_all
theorem Lk(hT:TS o place T tu tm)(hO:NO o)(hn:o.length<=8)(tl:T.length<=1099511627776):∀(k fu:Nat) {done:Qa Int} {nodes:List P'} {unique memo:Qa Int} {r:Int},k<fu->ZB nodes unique memo->ZE o.length nodes->SD o T nodes done->bB done [0]=some 0->bB done [1]=some 1->Vd T r->Aa (dn T r)->o.length<=k+RL o T r->nodes.length+3^k*65537<=1099511627776->
  ∃UI N' u' m' x,(abq nodes N' u' m' x (3^k*65537)/\ZE o.length N'/\SD o T N' UI/\(bB UI [0]=some 0/\bB UI [1]=some 1)/\Wt o T r N' x)/\
   ∀Q:Qa Int->List P'->Qa Int->Qa Int->Int->Prop,Q UI N' u' m' x->a_ fu r done o place T tu tm nodes unique memo Q:=by
 intro k;induction k with
 | zero=>
  intro fu done nodes unique memo r UN hB hE hS d0 d1 hr hm hk hlen;obtain⟨fu,rfl⟩:∃f,fu=f+1:=⟨fu-1,om⟩;have h0:=hr.1;have h2:r<2:=by
   by_cases h2:r<2;·exact h2
   ·obtain⟨_,x,_,_,e,_⟩:=hT.at hr om;have:=(hT.ord.Rg (v:=(P9 T (r-2)).T.toNat) om).1;omega
  have VX:bB done [r]=some r:=by grind
  refine⟨done,nodes,unique,memo,r,⟨⟨hB,RA.refl _,(hS _ _ VX).vd,om⟩,hE,hS,⟨d0,d1⟩,hS _ _ VX⟩,λQ hQ=>?_⟩;rw[a_,VX];exact aB (λh=>by cases h) (λ_=>hQ)
 | succ k ih=>
  intro fu done nodes unique memo r UN hB hE hS d0 d1 hr hm hk hlen;obtain⟨fu,rfl⟩:∃f,fu=f+1:=⟨fu-1,om⟩;have p2:0<3^k:=pow_pos (by decide);rw[pow_succ]at hlen;cases VX:bB done [r]with
  | some x=>
   refine⟨done,nodes,unique,memo,x,⟨⟨hB,RA.refl _,(hS _ _ VX).vd,om⟩,hE,hS,⟨d0,d1⟩,hS _ _ VX⟩,λQ hQ=>?_⟩;rw[a_,VX];exact aB (λh=>by cases h) (λ_=>hQ)
  | none=>
   have h0:=hr.1;have h1:=hr.2;have h2:2<=r:=by grind
   obtain⟨hx,xv,xl,xh,el,elo,ehi⟩:=hT.at hr h2;obtain⟨v,hv⟩:=Int.eq_ofNat_of_zero_le xv.1;have WB:v<o.length:=om;have evn:(P9 T (r-2)).T.toNat=v:=om;rw[evn,hO v WB]at el;have klo:Vf o T r (eU o v) false=(P9 T (r-2)).F:=by rw[Vf,if_pos (by rw[hO v WB];exact el)];rfl
   have khi:Vf o T r (eU o v) true=(P9 T (r-2)).D:=by rw[Vf,if_pos (by rw[hO v WB];exact el)];rfl
   have lev:eU o v<=RL o T r:=by rw[hO v WB,el];exact le_refl _
   have mlo:Aa (dn T (P9 T (r-2)).F):=by have:=FE hT hr WB lev hm false;rwa[klo]at this
   have mhi:Aa (dn T (P9 T (r-2)).D):=by have:=FE hT hr WB lev hm true;rwa[khi]at this
   have dlo:∀σ,dn T (P9 T (r-2)).F σ=dn T r (cF σ v false):=λσ=>by rw[<-klo];exact BP hT hr WB lev false σ
   have dhi:∀σ,dn T (P9 T (r-2)).D σ=dn T r (cF σ v true):=λσ=>by rw[<-khi];exact BP hT hr WB lev true σ
   have vlo:Vd T (P9 T (r-2)).F:=⟨xl.1,om⟩;have vhi:Vd T (P9 T (r-2)).D:=⟨xh.1,om⟩;have kl1:o.length<=k+RL o T (P9 T (r-2)).F:=om;have kl2:nodes.length+3^k*65537<=1099511627776:=le_trans (Nat.add_le_add_left (Nat.mul_le_mul_right 65537 (Nat.le_mul_of_pos_right _ (by decide))) _) hlen;obtain⟨s1,N1,u1,m1,x1,⟨A1,E1,S1,⟨a0,a1⟩,P1⟩,w1⟩:=ih fu (r:=(P9 T (r-2)).F) om hB hE hS d0 d1 vlo mlo kl1 kl2;have L1:=A1.len;obtain⟨s2,N2,u2,m2,x2,⟨A2,E2,S2,⟨b0,b1⟩,P2⟩,w2⟩:=ih fu (r:=(P9 T (r-2)).D) om A1.zb E1 S1 a0 a1 vhi mhi om om;have L2:=A2.len;have P1':=P1.pre A2.pre;have h38:4^8=65536:=rfl;obtain⟨N3,u3,m3,x3,⟨A3,E3,hW⟩,w3⟩:=Hb hn 8 (3*8+1) (a:=x2) (b:=x1) (le_refl _) A2.zb E2 P2.vd P1'.vd om om;have L3:=A3.len;have aeN:=P1'.pre A3.pre;have fx1:zf N3 x1.toNat=zf N2 x1.toNat:=jY P1'.vd A3.pre;have abi:∀t,t∈zf N2 x1.toNat->∀i,t.testBit i=true->v<i:=λt ht i hi=>by have:=P1'.lv t ht i hi;omega
   have abh:∀t,t∈zf N2 x2.toNat->∀i,t.testBit i=true->v<i:=λt ht i hi=>by have:=P2.lv t ht i hi;omega
   have noA:∀t,t∈zf N2 x1.toNat->t.testBit v=false:=λt ht=>by
    cases hb:t.testBit v with
    | false=>rfl
    | true=>have:=abi t ht v hb;omega
   have noH:∀t,t∈zf N2 x2.toNat->t.testBit v=false:=λt ht=>by
    cases hb:t.testBit v with
    | false=>rfl
    | true=>have:=abh t ht v hb;omega
   have l1:v<RV N3 x1.toNat:=A3.zb.zt.Sn (L:=v+1) aeN.vd.2 om λt ht i hi=>by rw[fx1]at ht;have:=abi t ht i hi;omega
   have l3:v<RV N3 x3.toNat:=A3.zb.zt.Sn (L:=v+1) A3.vd.2 om λt ht i hi=>by have:=abh t ((hW t).1 ht).1 i hi;omega
   obtain⟨N4,u4,x4,⟨A4,f4,z4⟩,w4⟩:=F9 A3.zb om (v:=(v:Int)) (lo:=x1) (hi:=x3) ⟨om,om⟩ aeN.vd A3.vd (by rw[toNat_natCast];exact l1) (by rw[toNat_natCast];exact l3);have L4:=A4.len;rw[toNat_natCast,fx1]at f4;have XI:=(A1.pre.trans A2.pre).trans (A3.pre.trans A4.pre);have sol:Wt o T r N4 x4:=by
    refine⟨A4.vd,λs=>?_,?_,λt ht i hi=>?_⟩
    ·rw[f4,Kb hW,P1'.cv,P2.cv,dlo,dhi];have e:∀b,(V5 s v=b)->cF (V5 s) v b=V5 s:=λb hb=>by
      funext i;unfold cF;split;·simp_all
      ·rfl
     have TK:V5 s v=s.testBit v:=J';cases hs:s.testBit v with
     | true=>
      rw[e true (by rw[TK,hs])];refine⟨λh=>h.elim (λh=>?_) (λh=>h.2),λh=>.inr ⟨rfl,h⟩⟩;refine hm _ _ (λi hi=>?_) h;unfold cF at hi;split at hi;·cases hi
      ·exact hi
     | false=>simp_all
    ·rw[f4];exact HY noA noH P1'.an P2.an hW
    ·rw[f4,mem_append]at ht;rw[el];rcases ht with ht|ht;·exact le_of_lt (abi t ht i hi)
     ·obtain⟨u,hu,rfl⟩:=List.mem_map.1 ht;rw[testBit_or,or_eq_true,Nat.testBit_two_pow,decide_eq_true_eq]at hi;rcases hi with hi|hi;·exact le_of_lt (abh u ((hW u).1 hu).1 i hi)
      ·omega
   have S2':SD o T N4 s2:=S2.pre (A3.pre.trans A4.pre);refine⟨QL s2 [r] x4,N4,u4,m3,x4,⟨⟨A4.zb,XI,A4.vd,by rw[pow_succ];omega⟩,z4 _ E3 om,λq y hq=>?_,⟨by rw[bH,if_neg om];exact b0,by rw[bH,if_neg om];exact b1⟩,sol⟩,λQ hQ=>?_⟩
   ·rw[bH]at hq;split at hq;·simp_all
    ·exact S2' q y hq
   ·rw[a_,VX];refine aB (λ_=>⟨Qo,⟨om,om⟩,w1 _ ⟨s2,N2,u2,m2,x2,w2 _ ⟨rfl,rfl,rfl,rfl,rfl⟩,N3,u3,m3,x3,⟨_,w3 _ ⟨rfl,rfl,rfl,rfl⟩⟩,N4,u4,x4,?_,hQ⟩⟩) (λh=>by cases h);rw[hv];exact w4 _ ⟨rfl,rfl,rfl⟩
theorem Pd(hT:TS o place T tu tm)(hO:NO o)(hn:o.length<=8)(tl:T.length<=1099511627776)(hr:Vd T r)(hm:Aa (dn T r)){Q:List P'->Qa Int->Qa Int->Int->Prop}(hQ:∀N u m x,ZB N u m->ZE o.length N->N.length<=429988257->Wt o T r N x->Q N u m x):eu r ([]:List P') de de o place T tu tm Q:=by
 have s0:SD o T [] (QL (QL (de:Qa Int) [0] 0) [1] 1):=λq x hq=>by
  rw[bH,bH]at hq;split at hq
  ·rename_i e;subst e;cases hq;refine⟨Pg,λs=>?_,?_,λt ht i hi=>?_⟩;·rw[show(1:Int).toNat=1 from rfl,jA,W9];exact⟨λ_=>rfl,λ_=>⟨0,List.mem_singleton.2 rfl,nG s⟩⟩
   ·rw[show(1:Int).toNat=1 from rfl,jA];intro a ha b hb _;rw[mem_singleton]at ha hb;rw[ha,hb]
   ·grind [jA]
  ·split at hq
   ·rename_i e;subst e;cases hq;refine⟨JL,λs=>?_,?_,λt ht i hi=>?_⟩;·grind [fJ,W_,se]
    ·rw[show(0:Int).toNat=0 from rfl,fJ];intro a ha;cases ha
    ·grind [fJ]
   ·simp[h_]at hq
 have hp:3^o.length<=6561:=pow_le_pow_right (n:=3) (j:=8) (by decide) hn;obtain⟨s,N,u,m,x,⟨A,E,_,_,P⟩,w⟩:=Lk hT hO hn tl o.length (o.length+1) (done:=QL (QL (de:Qa Int) [0] 0) [1] 1) (nodes:=[]) (unique:=de) (memo:=de) (r:=r) om ZB.nil (λi x h=>by simp at h) s0 (by rw[bH,if_neg (by decide),bH,if_pos rfl]) (by rw[bH,if_pos rfl]) hr hm om (by simp;omega);have hl:=A.len;simp only[List.length_nil,Nat.zero_add]at hl;exact⟨o.length+1,w _ (hQ N u m x A.zb E om P)⟩
theorem Eh(VT:o.length=n)(hT:TS o place T tu tm)(hn:o.length<=8)(hb:T.length<=1000000000)(hr:Vd T r)(hm:Aa (dn T r)){Q:List P'->Qa Int->Qa Int->Bool->Prop}(hQ:∀N u m,TS o place N u m->RA T N->N.length<=T.length+1600000->Q N u m true):jI r (n:Int) o place T tu tm Q:=by
 subst VT;have hp:2^o.length<=256:=pow_le_pow_right (n:=2) (j:=8) (by decide) hn;have hpp:2^o.length*(2^o.length+1)<=65792:=le_trans (Nat.mul_le_mul hp (Nat.succ_le_succ hp)) (by decide);refine bu (n:=o.length) (λi y=>y.1=(i:Int)/\TS o place y.2.1 y.2.2.1 y.2.2.2/\RA T y.2.1/\y.2.1.length<=T.length+i*200000) (λy=>y.1) 0 (λi y hy=>by rw[hy.1];omega) ⟨rfl,hT,RA.refl _,by simp⟩ ?_ ?_
 ·rintro i ⟨x,N,u,m⟩ next hi ⟨hx,hS,hP,hl⟩ Q6
  dsimp only at hx hS hP hl;subst hx;have TH:=hr.pre hP;obtain⟨N1,u1,m1,x1,A1,w1⟩:=zp hS (r:=r) (e:=(i:Int)) (b:=false) ⟨om,om⟩ om TH;have L1:=A1.le;obtain⟨N2,u2,m2,x2,A2,w2⟩:=zp A1.ts (r:=r) (e:=(i:Int)) (b:=true) ⟨om,om⟩ om (TH.pre A1.pre);have L2:=A2.le;obtain⟨N3,u3,m3,x3,A3,w3⟩:=kS A2.ts (c:=x1) (a:=x2) (b:=1) om (A1.vd.pre A2.pre) A2.vd YZ;have L3:=A3.le;have e1:x3=1:=by
   have hc:=A3.ts.wt.canon A3.ts.ord.ord.lv A3.vd.2 (s:=1) om λσ=>?_
   ·have:=A3.vd.1;omega
   ·have h1:=congrFun A3.dn σ;rw[show den N3 σ x3.toNat=dn N3 x3 σ from rfl,h1,kG,cG A1.vd A2.pre,A1.dn,A2.dn,W9];rw[cG TH A1.pre,cG hr hP,toNat_natCast];show(bif dn T r (cF σ i false)then dn T r (cF σ i true)else true)=true;cases h0:dn T r (cF σ i false)with
    | false=>rfl
    | true=>
     refine(hm _ _ (λj hj=>?_) h0:dn T r (cF σ i true)=true);unfold cF at hj ⊢;split;·rfl
     ·simp_all
  refine Qb (λ_=>w1 _ (w2 _ ?_)) (λhc=>absurd om hc);obtain⟨fu,UN⟩:=w3 (λu6 u7 u8 r3=>af (r3 != 1) (Q u6 u7 u8 false) (Qe ((i:Int)+1)/\next (((i:Int)+1),u6,u7,u8))) (iY (λhc=>absurd e1 hc) (λ_=>⟨Qo,Q6 _ ⟨by (try dsimp only);omega,A3.ts,((hP.trans A1.pre).trans A2.pre).trans A3.pre,by (try dsimp only);omega⟩⟩));exact⟨fu,UN⟩
 ·grind [Qb]
end
theorem EE{unique memo:Qa Int}(hT:ZT nodes)(nl:nodes.length<=1099511627776):∀(k fu:Nat) {seen:Qa Bool} {r most:Int},k<fu->Vd nodes r->r.toNat<=k+1->∃Tx,∀Q:Qa Bool->Prop,Q Tx->bi fu r most seen nodes unique memo Q:=by
 intro k;induction k using strongRecOn with
 | ind k ih=>
  intro fu seen r most UN hr hk;obtain⟨fu,rfl⟩:∃f,fu=f+1:=⟨fu-1,om⟩;have h0:=hr.1;have h1:=hr.2;by_cases h2:r<2;·refine⟨seen,λQ hQ=>?_⟩;rw[bi];exact Qb (λ_=>hQ) (λhc=>absurd h2 hc)
  by_cases h3:Option.getD (bB seen [r]) false=true;·refine⟨seen,λQ hQ=>?_⟩;rw[bi];exact Qb (λ_=>hQ) (λ_=>aB (λ_=>hQ) (λhc=>by rw[h3]at hc;cases hc))
  by_cases h4:most<((Qa.n seen:Nat):Int);·refine⟨seen,λQ hQ=>?_⟩;rw[bi];exact Qb (λ_=>hQ) (λ_=>aB (λhc=>absurd hc h3) (λ_=>Qb (λ_=>hQ) (λhc=>absurd h4 hc)))
  obtain⟨_,nn,_,_⟩:=hT.ref hr om;have l:=nn.lo;have q:=nn.hi;obtain⟨s1,w1⟩:=ih (k-1) om fu (seen:=QL seen [r] true) (r:=(P9 nodes (r-2)).F) (most:=most) om ⟨l.1,om⟩ om;obtain⟨s2,w2⟩:=ih (k-1) om fu (seen:=s1) (r:=(P9 nodes (r-2)).D) (most:=most) om ⟨q.1,om⟩ om;refine⟨s2,λQ hQ=>?_⟩;rw[bi];exact Qb (λhc=>absurd hc h2) (λ_=>aB (λhc=>absurd hc h3) (λ_=>Qb (λhc=>absurd hc h4) (λ_=>⟨Qo,⟨om,om⟩,s1,w1 _ rfl,Qo,⟨om,om⟩,s2,w2 _ rfl,hQ⟩)))
theorem CZ(h:n<=24):Rv (ry n):=Ft (by rw[jm];exact h) (by
 rw[ry,List.Nodup,pairwise_map];exact List.nodup_range.imp λh e=>h om) (λx hx=>by rw[jm];exact yv.1 hx)
theorem IG(h:n<=24):NO (ry n):=λv hv=>by rw[jm]at hv;have hO:=CZ h;obtain⟨h1,h2⟩:=hO.Rg (v:=v) (by rw[jm];exact hv);rw[jm]at h1;rw[Fz h1]at h2;omega
theorem Lq(g:FG f)(hM:JB f):Aa (fF f):=λσ τ h hs=>by have v24:=g.v24;have QH:∀p:Nat->Bool,gI p f.Y.toNat<4294967296:=λp=>lt_of_lt_of_le (Ry _) (le_trans (pow_le_pow_right (n:=2) (j:=24) (by decide) om) (by decide));refine hM _ _ (QH _) (QH _) (λi hi=>?_) hs;rw[QS,and_eq_true]at hi ⊢;exact⟨hi.1,h i hi.2⟩
variable{o:List Int}
theorem DB(g:FG f)(hV:f.Y<=8)(hM:JB f)(ho:Rv o)(VT:(o.length:Int)=f.Y){Q:Q4->Option Int->Prop}(h4:Q ⟨[],0⟩ (some 4))(hQ:∀z,ZT z.N->ZE f.Y.toNat z.N->Vd z.N z.V->z.N.length<=1099511627775->QY z.N z.V.toNat []=upto z.N.length->y_ (zf z.N z.V.toNat)->(∀s,s<2^f.Y.toNat->(Rh (zf z.N z.V.toNat) s↔FV f s=true))->Q z none):gF (vH o (fF f)) Q:=by
 have v0:=g.v0;have hn8:o.length<=8:=om;have aa3:Ts (fF f) (jn o):=Ni ho VT;have hvd:VD (vH o (fF f)):=ND ho om aa3;have adF:(vH o (fF f)).M=o:=rfl;have hle:=hvd.le;have hp:2^o.length<=256:=pow_le_pow_right (n:=2) (j:=8) (by decide) hn8;have Tj:=CZ (n:=o.length) om;have X9:=jm (n:=o.length);have e0:pU (dgE (vH o (fF f)))=none:=by rw[I4.2 hvd];rfl
 unfold gF kK;refine wN ?_;rw[e0,adF];refine aB (λh=>by cases h) (λ_=>Hf om (aB (λh=>by cases h) (λ_=>Me Tj λplace hTS=>?_)));refine Dz hvd hTS (by rw[X9,adF]) (by rw[X9];have:=Nat.mul_le_mul hle (Nat.succ_le_succ hp);simp at this ⊢;omega) λN1 u1 m1 r A=>⟨λh=>(by cases h),λx hx=>?_⟩;cases hx;have hL:=A.le;rw[X9]at hL;have R5:N1.length<=1052672+4096:=by have:=Nat.mul_le_mul hle (Nat.succ_le_succ hp);simp at hL this;omega
 have adP:Aa (dn N1 r):=by rw[A.dn,I7 ho aa3];exact Lq g hM
 refine aB (λh=>by cases h) (λ_=>?_)
 refine Eh (o:=ry o.length) X9 A.ts (by rw[X9];omega) om A.vd adP λN2 u2 m2 hT2 Yh SS=>aB (λh=>by cases h) (λ_=>?_)
 have adO:Aa (dn N2 r):=by have:dn N2 r=dn N1 r:=cG A.vd Yh;rw[this];exact adP
 refine Pd hT2 (IG om) (by rw[X9];omega) om (A.vd.pre Yh) adO λN3 u3 m3 x B3 E3 l3 P3=>?_;obtain⟨sn,wS⟩:=EE (unique:=u3) (memo:=m3) B3.zt om x.toNat (x.toNat+1) (seen:=de) (r:=x) (most:=4096) om P3.vd om;refine⟨x.toNat+1,wS _ (aB (λ_=>h4) (λ_=>?_))⟩
 obtain⟨z,hz,wE⟩:=Ha (unique:=u3) (memo:=m3) B3.zt om P3.vd;have hzl:=hz.le;refine wE _ (hQ z hz.zt ?_ hz.vd om hz.ag (by rw[hz.zf];exact P3.an) λs hs=>?_);·have:=hz.vr _ E3;rw[X9]at this;rwa[show f.Y.toNat=o.length by omega]
 ·rw[hz.zf,P3.cv];have:dn N2 r (V5 s)=fF f (V5 s):=by rw[cG A.vd Yh,A.dn,I7 ho aa3]
  rw[this,ON hs]
theorem DI(g:FG f)(hc:Vu f):JB f:=KH g (mark:=cU f f.N.length) ⟨(du g _ (le_refl _)).top,λi hi hm j hj=>(du g _ (le_refl _)).cl i om hi hm _ (qK hj)⟩ hc
theorem Fe(g:FG f)(hV:f.Y<=8)(ho:Rv o)(VT:(o.length:Int)=f.Y){Q:Q4->Option Int->Prop}(hq:Vu f->gF (vH o (fF f)) Q)(h7:¬Vu f->Q ⟨[],0⟩ (some 7)):qv f o Q:=by
 have v0:=g.v0;have t0:=g.Sd;have tt:=g.top;have n128:=g.n128;have hrt:Qe f.A:=by unfold Qe;omega
 have hz:pK o f.Y=0:=by rw[<-VT];exact xi ho
 have hb:kO f o=0:=rK.2 ⟨g,ho,VT⟩;refine eV hrt ?_;rw[kM.2 g];refine aB (λh=>by cases h) (λ_=>pn ?_);rw[hz];refine aB (λh=>by cases h) (λ_=>js g (λhc=>aB (λh=>by cases h) (λ_=>aB (λh=>by cases h) (λ_=>?_))) (λhc=>aB (λh=>by cases h) (λ_=>aB (λ_=>h7 hc) (λh=>by cases h))));exact wO hrt (λh=>absurd hb h) (λ_=>om) λ_=>aB (λh=>by cases h) (λ_=>hq hc)
theorem EO(g:FG f)(hV:f.Y<=8)(hc:Vu f)(ho:Rv o)(VT:(o.length:Int)=f.Y)(h4:Q [] (some 4))(hQ:∀m,Qw f.Y.toNat (FV f) m->Q (up m) none):jR f o Q:=by refine Fe g hV ho VT (λ_=>DB g hV (DI g hc) ho VT (aB (λ_=>h4) (λh=>by cases h)) λz zt ze zv zl za zn zc=>aB (λh=>by cases h) (λ_=>?_)) (λh=>absurd hc h);refine Lg (n:=f.Y.toNat) om zt ze zv zl za h4 λm hm SC=>hQ m ⟨⟨hm,λa ha b hb h=>zn a ((SC a).1 ha) b ((SC b).1 hb) h⟩,λt ht=>DL zt ze zv.2 t ((SC t).1 ht),λs hs=>?_⟩;rw[nI SC];exact zc s hs
theorem DG(g:FG f)(hV:f.Y<=8)(hc:¬Vu f)(ho:Rv o)(VT:(o.length:Int)=f.Y)(h7:Q [] (some 7)):jR f o Q:=Fe g hV ho VT (λh=>absurd h hc) (λ_=>aB (λ_=>h7) (λh=>by cases h))
variable{E:List Nat}{k s':Nat}{tr:List Bool}
section
variable{f:GFormula}
theorem FC{s s':Nat}:∀l:List Int,(∀a∈l,TY f a s=TY f a s')->nF s (l.map (TY f))=nF s' (l.map (TY f))
 | [],_=>rfl
 | a::l,h=>by rw[List.map_cons,nF,nF,h a mem_cons_self,FC l λb hb=>h b (mem_cons_of_mem _ hb)]
theorem Lt(g:FG f)(h:∀i:Nat,(i:Int)<f.Y->P9 (cU f f.N.length) (i:Int)=true->s.testBit i=s'.testBit i):∀(n:Nat) (a:Int),0<=a->a<f.Y+n->n<=f.N.length->P9 (cU f f.N.length) a=true->TY f a s=TY f a s':=by
 intro n;induction n using strongRecOn with
 | ind n ih=>
  intro a h0 h1 hn hm;by_cases hv:a<f.Y;·rw[zC h0 hv,zC h0 hv];exact h a.toNat om (by rw[show((a.toNat:Nat):Int)=a by omega];exact hm)
  ·obtain⟨k,rfl⟩:∃k:Nat,a=f.Y+k:=⟨(a-f.Y).toNat,om⟩;have hk:k<f.N.length:=om;rw[sm g hk,sm g hk];have:=FC (f:=f) (s:=s) (s':=s') (P9 f.N (k:Int)).Z λb hb=>by have:=pR g hk hm b hb;exact ih k om b this.1.1 this.1.2 om this.2
   rw[jr,this]
theorem Ls(g:FG f)(h:∀i:Nat,(i:Int)<f.Y->P9 (cU f f.N.length) (i:Int)=true->s.testBit i=s'.testBit i):FV f s=FV f s':=Lt g h f.N.length f.A g.Sd g.top (le_refl _) (du g _ (le_refl _)).top
def d_(f:GFormula):List Nat:=(range f.Y.toNat).filter λi=>P9 (cU f f.N.length) (i:Int)
def Bs(f:GFormula):Nat:=gI (λi=>P9 (cU f f.N.length) (i:Int)) f.Y.toNat
theorem wU:i∈d_ f↔i<f.Y.toNat/\P9 (cU f f.N.length) (i:Int)=true:=by rw[d_,List.mem_filter,List.mem_range]
theorem HS{l:List Bool}(h0:0<=a)(h:a<=(l.length:Int)):(fV l 0 a).length=a.toNat:=by rw[fV,length_take,List.length_drop];show min (a.toNat-0) _=_;omega
theorem JX{l:List Bool}(h:a<=(l.length:Int))(hj:j<a.toNat):P9 (fV l 0 a) (j:Int)=P9 l (j:Int):=by simp only[fV,P9,toNat_natCast];show(((l.drop 0).take (a.toNat-0)).getD j default)=_;rw[List.drop_zero,Nat.sub_zero,List.getD_eq_getElem?_getD,List.getElem?_take,if_pos hj,List.getD_eq_getElem?_getD]
theorem Hc(g:FG f)(hV:f.Y<=8){Q:Int->Option Int->Prop}(hQ:Q (Bs f:Int) none):kB f Q:=by
 have v0:=g.v0;have t0:=g.Sd;have tt:=g.top;have n128:=g.n128;have UX:=iT g f.N.length;refine eV Qo ?_;rw[kM.2 g];refine aB (λh=>by cases h) (λ_=>⟨_,uG g rfl,⟨om,om,om⟩,?_⟩);have YD:(fV (cU f f.N.length) 0 f.Y).length=f.Y.toNat:=HS v0 om;refine gB (n:=f.Y.toNat) (λi=>((gI (λi=>P9 (cU f f.N.length) (i:Int)) i:Int),(i:Int))) (λy=>y.2) 0 (λi=>by (try dsimp only);omega) rfl ?_ ?_
 ·intro i next hi Q6
  have QH:=Ry (p:=λi=>P9 (cU f f.N.length) (i:Int)) i;have hp:=km (show i<8 by omega);refine Qb (λ_=>⟨by rw[YD];(try dsimp only);omega,?_⟩) (λhc=>absurd (by rw[YD];(try dsimp only);omega) hc);try dsimp only at Q6 ⊢
  rw[JX om om];rw[gI]at Q6;refine aB (λhb=>?_) (λhb=>?_)
  ·rw[if_pos hb,<-Ur]at Q6;rw[rl om,toNat_natCast,mg (oF om) (oF hp)];exact⟨⟨om,xR hp⟩,Qo,by simpa using Q6⟩
  ·rw[if_neg (by rw[hb];simp)]at Q6;exact⟨Qo,by simpa using Q6⟩
 ·intro next
  exact Qb (λhc=>absurd hc (by rw[YD];(try dsimp only);omega)) (λ_=>hQ)
theorem JY(hV:f.Y<=8):Bs f<256:=lt_of_lt_of_le (Ry _) (pow_le_pow_right (n:=2) (j:=8) (by decide) om)
theorem oU{p:Nat->Bool}:(range (i+1)).filter p=(range i).filter p++(if p i=true then [i]else []):=by rw[List.range_succ,List.filter_append];cases h:p i<;>simp[h]
theorem MF(hV:f.Y<=8):(range 24).filter (λi=>(Bs f).testBit i)=d_ f:=by
 have h1:∀k,(range (f.Y.toNat+k)).filter (λi=>(Bs f).testBit i)=d_ f:=λk=>by
  induction k with
  | zero=>exact List.filter_congr λi hi=>by rw[List.mem_range]at hi;rw[Bs,QS,decide_eq_true om,Bool.true_and]
  | succ k ih=>
   rw[<-Nat.add_assoc,oU,ih,Bs,QS,decide_eq_false om];simp
 have:=h1 (24-f.Y.toNat);rwa[show f.Y.toNat+(24-f.Y.toNat)=24 by omega]at this
theorem E9(hV:f.Y<=8):(d_ f).length<=8:=le_trans (List.length_filter_le _ _) (by rw[length_range];omega)
theorem xF:(d_ f).Nodup:=List.Pairwise.filter _ List.nodup_range
def wd(E:List Nat)(s:Nat):Nat->Nat
 | 0=>0
 | k+1=>wd E s k ||| (if s.testBit k=true then 2^(E.getD k 0)else 0)
theorem qa{E:List Nat}{s i:Nat}:∀k,(wd E s k).testBit i=true↔∃j,j<k/\s.testBit j=true/\E.getD j 0=i
 | 0=>by simp[wd]
 | k+1=>by
  rw[wd,testBit_or,or_eq_true,qa k];constructor
  ·rintro(⟨j,h1,h2,h3⟩|h);·exact⟨j,om,h2,h3⟩
   ·split at h;·rename_i hs;rw[lT,decide_eq_true_eq]at h;exact⟨k,om,hs,h⟩
    ·simp at h
  ·rintro⟨j,h1,h2,h3⟩;by_cases e:j=k;·subst e;right;rw[if_pos h2,lT,decide_eq_true_eq];exact h3
   ·exact .inl ⟨j,om,h2,h3⟩
theorem vO(hE:∀i∈E,i<n)(hk:k<=E.length):wd E s k<2^n:=uc λi hi=>by
 obtain⟨j,h1,_,h3⟩:=(qa k).1 hi;have:E.getD j 0=E[j]'om:=by simp[List.getD_eq_getElem?_getD,List.getElem?_eq_getElem (show j<E.length by omega)]
 rw[<-h3,this];exact hE _ (getElem_mem _)
theorem qt(h:j<E.length):E.getD j 0=E[j]:=by simp[List.getD_eq_getElem?_getD,List.getElem?_eq_getElem h]
def nwE(E:List Nat)(s:Nat):Nat:=gI (λj=>s.testBit (E.getD j 0)) E.length
theorem Iz(nd:E.Nodup){r:Nat}(hr:r<2^E.length):fN (wd E r E.length) s↔fN r (nwE E s):=by
 constructor;·intro h j hj;have UM:=Ca hr hj;rw[nwE,QS,decide_eq_true UM,Bool.true_and];exact h _ ((qa _).2 ⟨j,UM,hj,rfl⟩)
 ·intro h i hi;obtain⟨j,h1,h2,h3⟩:=(qa _).1 hi;have:=h j h2;rw[nwE,QS,and_eq_true]at this;rw[<-h3];exact this.2
theorem DQ(nd:E.Nodup){r:Nat}(hr:r<2^E.length)(hs:s<2^E.length)(h:fN (wd E r E.length) (wd E s E.length)):fN r s:=λj hj=>by have UM:=Ca hr hj;obtain⟨q,q1,q2,q3⟩:=(qa _).1 (h _ ((qa _).2 ⟨j,UM,hj,rfl⟩));rw[qt q1,qt UM]at q3;have:q=j:=(List.getElem_inj nd).1 q3;subst this;exact q2
theorem Ma{x:Nat}(hx:x<65536):bits .and .i64 ((x:Int)/2^(toNat (k:Int))) 1=if x.testBit k=true then 1 else 0:=by
 have e:((x:Int)/2^(toNat (k:Int)))=((x/2^k:Nat):Int):=by rw[toNat_natCast];simp
 have hle:=Nat.div_le_self x (2^k);have hb:x.testBit k=decide (x/2^k%2=1):=Nat.testBit_eq_decide_div_mod_eq;rw[e,hb];generalize x/2^k=d at hle ⊢;rw[zd om om];by_cases h:d%2=1;·rw[if_pos (decide_eq_true h)];omega
 ·rw[if_neg (by simpa using h)];omega
theorem Mn(hE:∀i∈E,i<8)(hl:E.length<=8)(hs:s<65536){Q:Int->Prop}(hQ:Q (wd E s E.length:Int)):gR (s:Int) (up E) tr Q:=by
 refine gB (n:=E.length) (λk=>((wd E s k:Int),(k:Int))) (λy=>y.2) 0 (λi=>by (try dsimp only);omega) rfl ?_ ?_
 ·intro k next hk Q6
  have hek:=hE _ (getElem_mem hk);have hp:=km hek;have QH:wd E s k<256:=vO (n:=8) hE om;refine Qb (λ_=>⟨by rw[cC];(try dsimp only);omega,by (try dsimp only);omega,?_⟩) (λhc=>absurd (by rw[cC];(try dsimp only);omega) hc);try dsimp only at Q6 ⊢
  rw[qA hk,Ma hs,toNat_natCast];rw[wd,qt hk]at Q6;by_cases hb:s.testBit k=true;·rw[if_pos hb]at Q6 ⊢;rw[show(1:Int)*2^E[k]=((2^E[k]:Nat):Int)by rw[Int.one_mul];simp];refine⟨⟨om,xR hp⟩,k_ ?_⟩;rw[mg (oF QH) (oF hp)];exact⟨Qo,by simpa using Q6⟩
  ·rw[if_neg hb]at Q6 ⊢;rw[Int.zero_mul];refine⟨⟨om,Qo⟩,k_ ?_⟩;rw[show(0:Int)=((0:Nat):Int)from rfl,mg (oF QH) (by decide)];exact⟨Qo,by simpa using Q6⟩
 ·intro next
  exact Qb (λhc=>absurd hc (by rw[cC];(try dsimp only);omega)) (λ_=>hQ)
def Bo(f:GFormula)(s:Nat):Bool:=FV f (wd (d_ f) s (d_ f).length)
theorem E_(hV:f.Y<=8):∀i∈d_ f,i<8:=λi hi=>by have:=(wU.1 hi).1;omega
theorem Ko{x:Nat}(h:x<256):dR 24 x<=8:=by
 have:dR 24 x=dR 8 x+dR 16 (x/2^8):=tP (S:=x) (j:=8) 16;have h2:dR 16 (x/2^8)=0:=by rw[show x/2^8=0 by omega];decide
 have:=yd 8 x;omega
theorem K8(g:FG f)(hs:s<2^f.Y.toNat):BX f (s:Int)=0:=by
 unfold BX;rw[if_neg (by rw[kM.2 g];simp),if_neg];have:(2^f.Y.toNat:Int)=((2^f.Y.toNat:Nat):Int):=by simp
 omega
theorem JT(g:FG f)(hV:f.Y<=8){Q:Option ((List Int)×(List Bool))->Option Int->Prop}(hQ:∀tr:List Bool,tr.length=2^(d_ f).length->(∀s:Nat,s<2^(d_ f).length->P9 tr (s:Int)=Bo f s)->Q (some (up (d_ f),tr)) none):ju f Q:=by
 have v0:=g.v0;have t0:=g.Sd;have tt:=g.top;have n128:=g.n128;have QH:=JY hV;have hl8:=E9 hV;have hpk:2^(d_ f).length<=256:=pow_le_pow_right (n:=2) (j:=8) (by decide) hl8;have hpp:0<2^(d_ f).length:=pow_pos (by decide);refine Hc g hV (aB (λh=>by cases h) (λ_=>FY QH (Qb (λhc=>?_) (λ_=>?_))))
 ·have:=Ko QH;omega
 refine gB (n:=24) (λi=>((i:Int),up ((range i).filter λj=>(Bs f).testBit j))) (λy=>y.1) 0 (λi=>by (try dsimp only);omega) rfl ?_ ?_
 ·intro i next hi Q6
  have hle:((range i).filter λj=>(Bs f).testBit j).length<=24:=le_trans (List.length_filter_le _ _) (by rw[length_range];omega);rw[oU]at Q6;refine Qb (λ_=>⟨by (try dsimp only);omega,?_⟩) (λhc=>absurd (by (try dsimp only);omega) hc);try dsimp only at Q6 ⊢
  rw[Ma om];by_cases hb:(Bs f).testBit i=true;·rw[if_pos hb,Bj]at Q6;rw[if_pos hb];exact aB (λ_=>⟨by rw[length_append,cC];simp;omega,Qo,by simpa[up]using Q6⟩) (λh=>by cases h)
  ·rw[if_neg hb,append_nil]at Q6;rw[if_neg hb];exact aB (λh=>by cases h) (λ_=>⟨Qo,by simpa using Q6⟩)
 ·intro next
  refine Qb (λhc=>absurd hc (by (try dsimp only);omega)) (λ_=>?_)
  try dsimp only
  rw[MF hV];have Un:(1:Int)*2^(toNat ((up (d_ f)).length:Int))=((2^(d_ f).length:Nat):Int):=by rw[cC,toNat_natCast,Int.one_mul];simp
  rw[Un];refine⟨⟨by rw[cC];omega,Qo⟩,⟨om,om,om,om⟩,?_⟩;refine bu (n:=2^(d_ f).length) (λi y=>y.1=(i:Int)/\y.2.length=2^(d_ f).length/\∀s:Nat,s<i->P9 y.2 (s:Int)=Bo f s) (λy=>y.1) 0 (λi y hy=>by rw[hy.1];omega) ⟨rfl,by rw[bA,List.length_replicate,toNat_natCast],λs hs=>absurd hs om⟩ ?_ ?_
  ·rintro i ⟨x,tr⟩ Qd hi ⟨hx,hl,hI⟩ TL;dsimp only at hx hl hI;subst hx;have hw:wd (d_ f) i (d_ f).length<2^f.Y.toNat:=vO (λj hj=>(wU.1 hj).1) (le_refl _);have hw8:wd (d_ f) i (d_ f).length<256:=lt_of_lt_of_le hw (pow_le_pow_right (n:=2) (j:=8) (by decide) om);have hz:BX f ((wd (d_ f) i (d_ f).length:Nat):Int)=0:=K8 g hw;have SV:i<tr.length:=om;refine Qb (λ_=>⟨_,Mn (E_ hV) hl8 om rfl,FV f (wd (d_ f) i (d_ f).length),none,wM Qo (λh=>absurd hz h) (λ_=>⟨by rw[toNat_natCast],rfl⟩),⟨by (try dsimp only);omega,by (try dsimp only);omega⟩,aB (λh=>by cases h) (λ_=>⟨Qo,TL _ ⟨by (try dsimp only);omega,by (try dsimp only);rw[ck];exact hl,λs hs=>?_⟩⟩)⟩) (λhc=>absurd om hc);try dsimp only
   rw[dO om];split;·rename_i e;rw[e];rfl
   ·exact hI s om
  ·rintro⟨x,tr⟩ Qd ⟨hx,hl,hI⟩;dsimp only at hx hl hI;subst hx;exact Qb (λhc=>absurd hc om) (λ_=>hQ tr hl hI)
end
def PwL(n i:Nat)(l:List Int):Prop:=l.length=n+1/\∀k:Nat,k<=i->P9 l (k:Int)=((3^k:Nat):Int)
theorem xg(hn:n<=8)(hk:k<=n):3^k<=6561:=pow_le_pow_right (n:=3) (j:=8) (by decide) om
variable{c:Nat}
theorem L8{l:List Int}(hn:n<=8)(hl:PwL n n l)(hk:k<n)(hc:c<=6561){Q:Int->Prop}(hQ:Q (d3 c k:Int)):dJ (c:Int) (k:Int) l Q:=by
 have e:=hl.2 k om;have hp:=p3 k;have hle:=Nat.div_le_self c (3^k);have h1:=hl.1;have ed:Int.tdiv (c:Int) ((3^k:Nat):Int)=((c/3^k:Nat):Int):=rfl;have em:Int.tmod ((c/3^k:Nat):Int) 3=((c/3^k%3:Nat):Int):=rfl;refine⟨⟨om,om⟩,?_⟩;rw[e,ed,em];refine⟨⟨?_,?_⟩,hQ⟩;·omega
 ·grind [Qe]
def zr(n c:Nat):Nat:=gI (λj=>d3 c j==0) n
theorem Hi:(zr n c).testBit j=(decide (j<n)&&(d3 c j==0)):=QS n j
noncomputable def MN (T:Nat->Bool) (n c:Nat):Bool:=@decide (Yz T n c) (Classical.propDecidable _)
variable{T:Nat->Bool}
theorem yc:MN T n c=true↔Yz T n c:=by grind [MN]
def GU(E:List Nat)(c:Nat):Q3:=⟨((wd E (yr E.length c) E.length:Nat):Int),0⟩
theorem EV(E:List Nat){s:Nat}:∀k,(∀j,j<k->s.testBit j=false)->wd E s k=0
 | 0,_=>rfl
 | k+1,h=>by rw[wd,EV E k λj hj=>h j om,if_neg (by rw[h k om];simp)];rfl
noncomputable def Vw (T:Nat->Bool) (n i:Nat):List Nat:=(range i).filter (MN T n)
theorem xf:c∈Vw T n i↔c<i/\Yz T n c:=by grind [Vw,yc]
variable{d:Nat}
theorem K4(hc:c<3^n)(hd:d<3^n)(h:∀j,j<n->d3 c j=d3 d j):c=d:=by
 induction n generalizing c d with
 | zero=>simp at hc hd;omega
 | succ n ih=>
  have key:∀x,x<3^(n+1)->x=x%3^n+3^n*d3 x n/\∀j,j<n->d3 (x%3^n) j=d3 x j:=λx hx=>by grind [rG,Nat.div_eq_of_lt,ut,mod_lt,uu]
  obtain⟨c1,c2⟩:=key c hc;obtain⟨e1,e2⟩:=key d hd;have:=ih (mod_lt c (p3 n)) (mod_lt d (p3 n)) λj hj=>by grind
  rw[c1,e1,this,h n om]
theorem Ml(hm:yq T n)(hc:c<3^n)(hd:d<3^n)(pc:Yz T n c)(pd:Yz T n d)(h:yr n c=yr n d):c=d:=by
 refine K4 hc hd λj hj=>?_;have h1:=xd hm pc j hj;have h2:=xd hm pd j hj;have h3:=uu c j;have h4:=uu d j;have h5:=congrArg (λx=>Nat.testBit x j) h;simp only[nJ,decide_eq_true hj,Bool.true_and]at h5;by_cases e:d3 c j=1;·simp_all
 ·grind
theorem Ii(hm:yq T n):((Vw T n (3^n)).map (yr n)).Nodup:=by rw[List.Nodup,pairwise_map];have h:(Vw T n (3^n)).Nodup:=List.Pairwise.filter _ List.nodup_range;refine List.Pairwise.imp_of_mem (λ{a b} ha hb QI he=>QI ?_) h;obtain⟨a1,a2⟩:=xf.1 ha;obtain⟨b1,b2⟩:=xf.1 hb;exact Ml hm a1 b1 a2 b2 he
theorem Km(hn:n<=8)(hm:yq T n):(Vw T n (3^n)).length<=256:=by
 have:=List.Nodup.length_le_of_subset (l₁:=(Vw T n (3^n)).map (yr n)) (l₂:=range 256) (Ii hm) λt ht=>by obtain⟨c,_,rfl⟩:=List.mem_map.1 ht;exact List.mem_range.2 (lt_of_lt_of_le sE (pow_le_pow_right (n:=2) (j:=8) (by decide) hn))
 rwa[length_map,length_range]at this
theorem Ih(hl:E.length<=8)(hE:∀i∈E,i<8)(YC:tr.length=2^E.length)(htr:∀s:Nat,s<2^E.length->P9 tr (s:Int)=T s)(hm:yq T E.length){Q:List Q3->Option Int->Prop}(hQ:∀y:List Q3,y.Perm ((Vw T E.length (3^E.length)).map (GU E))->y.Pairwise (λa b=>¬uz b a<0)->Q y none):ez (up E) tr Q:=by
 have amo:=xg hl (le_refl E.length);have Uh:=p3 E.length;have TW:((up E).length:Int)=(E.length:Int):=by rw[cC]
 unfold ez;rw[TW];refine⟨Qo,⟨om,om,om,om⟩,⟨om,om⟩,?_⟩;refine bu (n:=E.length) (λi y=>y.1=(i:Int)/\PwL E.length i y.2) (λy=>y.1) 0 (λi y hy=>by rw[hy.1];omega) ⟨rfl,by rw[ck,bA,List.length_replicate];omega,λk hk=>?_⟩ ?_ ?_;·grind [dO,bA]
 ·rintro i ⟨x,pw⟩ next hi ⟨hx,U7,Un⟩ Q6
  dsimp only at hx U7 Un;subst hx;have hle:=xg hl (le_of_lt hi);have hpi:=p3 i;refine Qb (λ_=>?_) (λhc=>absurd om hc);rw[Un i (le_refl _),show((i:Int)+1)=((i+1:Nat):Int)by omega];refine⟨Qo,⟨om,om⟩,Qo,⟨om,om⟩,Qo,Q6 _ ⟨by (try dsimp only),by (try dsimp only);rw[ck];exact U7,λk hk=>?_⟩⟩;try dsimp only
  rw[dO om];split;·grind
  ·exact Un k om
 rintro⟨x,pw⟩ next ⟨hx,Un⟩
 dsimp only at hx Un;subst hx;have U7:=Un.1;refine Qb (λhc=>absurd hc om) (λ_=>?_)
 rw[Un.2 E.length (le_refl _),toNat_natCast];refine⟨⟨om,om⟩,⟨om,om,om,om⟩,?_⟩;refine bu (n:=3^E.length) (λi y=>y.1=(i:Int)/\y.2.length=3^E.length/\∀c:Nat,c<i->(P9 y.2 (c:Int)=true↔wI T E.length c)) (λy=>y.1) 0 (λi y hy=>by rw[hy.1];omega) ⟨rfl,by rw[bA,List.length_replicate,toNat_natCast],λc hc=>absurd hc om⟩ ?_ ?_
 ·rintro i ⟨x,is⟩ Qd hi ⟨hx,SV,hI⟩ TL;dsimp only at hx SV hI;subst hx;have step:∀b:Bool,(b=true↔wI T E.length i)->Qd ((i:Int)+1,Qt is (i:Int) b):=λb hb=>TL _ ⟨by (try dsimp only);omega,by (try dsimp only);rw[ck];exact SV,λc hc=>by
   try dsimp only
   rw[dO om];split;·simp_all
   ·exact hI c om⟩
  refine Qb (λ_=>?_) (λhc=>absurd om hc);refine bu (n:=E.length) (λj y=>y.2.2=(j:Int)/\y.1=((gI (λj=>d3 i j==1) j:Nat):Int)/\((y.2.1 = -1/\∀k,k<j->d3 i k≠2)\/∃q:Nat,q<j/\y.2.1=(q:Int)/\d3 i q=2)) (λy=>y.2.2) 0 (λj y hy=>by rw[hy.1];omega) ⟨rfl,rfl,.inl ⟨rfl,λk hk=>absurd hk om⟩⟩ ?_ ?_
  ·rintro j ⟨row,Tn,x3⟩ next3 hj ⟨Z0,Ri,Tg⟩ WC;dsimp only at Z0 Ri Tg;subst Z0 Ri;have hd:=uu i j;have hb:=Ry (p:=λj=>d3 i j==1) j;have hb8:2^j<=256:=pow_le_pow_right (n:=2) (j:=8) (by decide) om;have hp:=km (show j<8 by omega);refine Qb (λ_=>L8 hl Un hj om ?_) (λhc=>absurd om hc);refine bk (λh1=>?_) (λh1=>bk (λh2=>?_) (λh2=>?_))
   ·have Xq:d3 i j=1:=om;rw[rl om,toNat_natCast,mg (oF om) (oF hp),Ur];refine⟨⟨⟨om,om⟩,xR hp⟩,Qo,WC _ ⟨by (try dsimp only);omega,by (try dsimp only);rw[gI,if_pos (by rw[Xq];rfl)],?_⟩⟩;rcases Tg with⟨h,k⟩|⟨q,h,k⟩;·grind
    ·grind
   ·have W5:d3 i j=2:=om;exact⟨Qo,WC _ ⟨by (try dsimp only);omega,by (try dsimp only);rw[gI,if_neg (by rw[W5];decide)],.inr ⟨j,om,rfl,W5⟩⟩⟩
   ·have h0:d3 i j=0:=om;refine⟨Qo,WC _ ⟨by (try dsimp only);omega,by (try dsimp only);rw[gI,if_neg (by rw[h0];decide)],?_⟩⟩;rcases Tg with⟨h,k⟩|⟨q,h,k⟩;·grind
    ·grind
  ·rintro⟨row,Tn,x3⟩ next3 ⟨Z0,Ri,Tg⟩;dsimp only at Z0 Ri Tg;subst Z0 Ri;have hy:gI (λj=>d3 i j==1) E.length=yr E.length i:=rfl;have hyl:=sE (n:=E.length) (c:=i);refine Qb (λhc=>absurd hc om) (λ_=>?_)
   rw[hy];refine Qb (λadM=>?_) (λadM=>?_)
   ·rcases Tg with⟨_,hk⟩|⟨q,_,h,_⟩;·refine⟨⟨om,by rw[YC];exact Int.ofNat_lt.2 hyl⟩,⟨om,om⟩,Qo,?_⟩;rw[htr _ hyl];exact step _ (GM hk).symm
    ·omega
   ·rcases Tg with⟨h,_⟩|⟨q,hq,rfl,h2⟩;·omega
    ·have Wj:=CQ (c:=i) (j:=q) (e:=1) h2 (by decide);have TT:=CQ (c:=i) (j:=q) (e:=2) h2 (by decide);have hpq:=p3 q;have hsp:=rG i q;have agU:=xg hl (le_of_lt hq);have TV:2*3^q<=i:=by grind
     rw[Un.2 q om];rw[show(2-1:Nat)=1 from rfl]at Wj;rw[show(2-2:Nat)=0 from rfl]at TT;generalize Xl:3^q=p at Wj TT hpq TV agU ⊢;have e1:(i:Int)-(p:Int)=((pH i q 1:Nat):Int):=om;have e2:(i:Int)-2*(p:Int)=((pH i q 0:Nat):Int):=om;have l1:pH i q 1<i:=om;have l2:pH i q 0<i:=om;rw[e1,e2];have hf:=GN (T:=T) (n:=E.length) (c:=i) hq h2;refine⟨⟨om,om⟩,Qo,⟨om,om⟩,?_⟩;have i1:=hI _ l1;have i2:=hI _ l2;refine aB (λhb=>⟨⟨om,om⟩,Qo,Qo,⟨om,om⟩,⟨om,om⟩,Qo,step _ ?_⟩) (λhb=>⟨⟨om,om⟩,Qo,step _ ?_⟩);·grind
     ·grind
 rintro⟨x,is⟩ Qd ⟨hx,SV,hI⟩;dsimp only at hx SV hI;subst hx;refine Qb (λhc=>absurd hc om) (λ_=>?_)
 refine bu (n:=3^E.length) (λi y=>y.1=(i:Int)/\y.2=(Vw T E.length i).map (GU E)) (λy=>y.1) 0 (λi y hy=>by rw[hy.1];omega) ⟨rfl,rfl⟩ ?_ ?_
 ·rintro i ⟨x,out⟩ QD hi ⟨hx,ho⟩ hn4;dsimp only at hx ho;subst hx ho;have VT:(Vw T E.length i).length<=i:=le_trans (List.length_filter_le _ _) (by rw[length_range];exact le_refl _);have skip:¬Yz T E.length i->QD ((i:Int)+1,(Vw T E.length i).map (GU E)):=λh=>hn4 _ ⟨by (try dsimp only);omega,by
   (try dsimp only)
   rw[Vw,Vw,oU,if_neg (λhc=>h (yc.1 hc)),append_nil]⟩
  refine Qb (λ_=>⟨⟨om,om⟩,?_⟩) (λhc=>absurd om hc);by_cases hb:P9 is (i:Int)=true
  ·have hii:=(hI i hi).1 hb;rw[hb];refine aB (λh=>by cases h) (λ_=>?_)
   refine bu (n:=E.length) (λj y=>y.2.1=(j:Int)/\(y.1=true↔∀k,k<j->d3 i k≠2->¬wI T E.length (pH i k 2))/\y.2.2=(⟨((wd E (yr E.length i) j:Nat):Int),((wd E (zr E.length i) j:Nat):Int)⟩:Q3)) (λy=>y.2.1) 0 (λj y hy=>by rw[hy.1];omega) ⟨rfl,⟨λ_ k hk=>absurd hk om,λ_=>rfl⟩,rfl⟩ ?_ ?_
   ·rintro j ⟨pr,x5,x6⟩ Ro hj ⟨ZZ,hpr,hx6⟩ hn5;dsimp only at ZZ hpr hx6;subst ZZ hx6;have hd:=uu i j;have hej:=hE _ (getElem_mem hj);have T6:=km hej;have w1:wd E (yr E.length i) j<256:=vO (n:=8) hE om;have w2:wd E (zr E.length i) j<256:=vO (n:=8) hE om;have y1:(yr E.length i).testBit j=(d3 i j==1):=by grind [nJ]
    have z1:(zr E.length i).testBit j=(d3 i j==0):=by grind [Hi]
    refine Qb (λ_=>⟨⟨om,om⟩,L8 hl Un hj om ?_⟩) (λhc=>absurd om hc);refine bk (λh2=>?_) (λh2=>?_)
    ·grind [Qe,wd]
    ·have W5:d3 i j≠2:=om;refine⟨λb=>(b=true↔∀k,k<j+1->d3 i k≠2->¬wI T E.length (pH i k 2)),?_,λb V0=>?_⟩
     ·refine aB (λhp=>?_) (λhp=>?_)
      ·have hpj:=xg hl (le_of_lt hj);have agW:=Kl (c:=i) (j:=j) (x:=2) (n:=E.length) (by decide) hi hj;have e2:(i:Int)+(2-(d3 i j:Int))*((3^j:Nat):Int)=((pH i j 2:Nat):Int):=by grind [Ig]
       have e3:Qe ((2-(d3 i j:Int))*((3^j:Nat):Int)):=by generalize 3^j=p at hpj;unfold Qe;rcases (by omega:d3 i j=0\/d3 i j=1)with h|h<;>rw[h]<;>omega
       rw[Un.2 j om,e2];refine⟨Qo,⟨om,om⟩,e3,Qo,⟨om,om⟩,?_⟩;have hIp:=hI _ agW;dsimp only;rw[Bool.not_eq_true',<-Bool.not_eq_true,hIp];refine⟨λh k hk YF=>?_,λh=>h j om W5⟩;by_cases e:k=j;·subst e;exact h
       ·grind
      ·grind
     ·rw[qA hj,rl om,toNat_natCast];refine bk (λh1=>?_) (λh1=>?_)
      ·have Xq:d3 i j=1:=om;dsimp only;rw[mg (oF w1) (oF T6)];refine⟨⟨⟨om,om⟩,xR T6⟩,Qo,hn5 _ ⟨by (try dsimp only);omega,V0,?_⟩⟩;dsimp only;rw[wd,wd,y1,z1,Xq,if_pos (by decide),if_neg (by decide),Nat.or_zero,qt hj]
      ·have h0:d3 i j=0:=om;dsimp only;rw[mg (oF w2) (oF T6)];refine⟨⟨⟨om,om⟩,xR T6⟩,Qo,hn5 _ ⟨by (try dsimp only);omega,V0,?_⟩⟩;dsimp only;rw[wd,wd,y1,z1,h0,if_neg (by decide),if_pos (by decide),Nat.or_zero,qt hj]
   ·rintro⟨pr,x5,x6⟩ Ro ⟨ZZ,hpr,hx6⟩;dsimp only at ZZ hpr hx6;subst ZZ hx6;refine Qb (λhc=>absurd hc om) (λ_=>aB (λhp=>?_) (λhp=>?_))
    ·have agY:Yz T E.length i:=⟨hii,hpr.1 hp⟩;have hz:wd E (zr E.length i) E.length=0:=EV E _ λj hj=>by grind [Hi,xd]
     rw[hz];refine⟨by rw[length_append,length_map,length_singleton];omega,Qo,hn4 _ ⟨by (try dsimp only);omega,?_⟩⟩;dsimp only;rw[Vw,Vw,oU,if_pos (yc.2 agY),map_append];rfl
    ·exact⟨Qo,skip λh=>by rw[hpr.2 h.2]at hp;cases hp⟩
  ·have Sq:P9 is (i:Int)=false:=by simpa using hb
   rw[Sq];exact aB (λ_=>⟨Qo,skip λh=>hb ((hI i hi).2 h.1)⟩) (λh=>by cases h)
 rintro⟨x,out⟩ QD ⟨hx,ho⟩;dsimp only at hx ho;subst hx ho;have hlen:=Km hl hm;refine Qb (λhc=>absurd hc om) (λ_=>Qb (λhc=>absurd hc (by rw[length_map];omega)) (λ_=>⟨λv hv=>?_,by rw[length_map];omega,λy hp hs=>⟨hp.length_eq,hQ y hp hs⟩⟩));obtain⟨c,_,rfl⟩:=List.mem_map.1 hv;have w:wd E (yr E.length c) E.length<256:=vO (n:=8) hE (le_refl _);have e1:(GU E c).H=((wd E (yr E.length c) E.length:Nat):Int):=rfl;have e2:(GU E c).No=0:=rfl;refine⟨⟨?_,?_⟩,?_,?_⟩;·rw[e1];omega
 ·rw[e1];omega
 ·rw[e2];decide
 ·rw[e2];decide
theorem JQ{r:Nat}(h:fN r s)(k:Nat):fN (wd E r k) (wd E s k):=λi hi=>by obtain⟨j,h1,h2,h3⟩:=(qa k).1 hi;exact(qa k).2 ⟨j,h1,h j h2,h3⟩
def wQ(m:List Nat):List Q3:=m.map λt:Nat=>(⟨(t:Int),0⟩:Q3)
theorem K7{a:Nat}(ha:a<256)(hb:b<256):uz ⟨(a:Int),0⟩ ⟨(b:Int),0⟩<0↔qP a b:=by
 rw[<-F0 ha hb];have e:∀x:Nat,x<256->bits .or .i64 (x:Int) 0=(x:Int):=λx hx=>by have:=mg (a:=x) (b:=0) (oF hx) (by decide);rwa[Nat.or_zero]at this
 unfold uz rJ;dsimp only;rw[e a ha,e b hb];have h0:oI 0 0=0:=rfl;have h1:∀x,Ub x 0=x:=λx=>by unfold Ub;split<;>omega
 rw[h0,h1]
theorem HV(hb:∀t∈l,t<256){y:List Q3}(hp:y.Perm (wQ l))(hs:y.Pairwise (λa b=>¬uz b a<0)):∃m:List Nat,y=wQ m/\m.Perm l/\m.Pairwise (λa b=>qP a b\/a=b):=by
 have hy:∀x∈y,∃t:Nat,t∈l/\(⟨(t:Int),0⟩:Q3)=x:=λx hx=>List.mem_map.1 (hp.mem_iff.1 hx);have hc:∀l:List Nat,(wQ l).map (λx=>x.H.toNat)=l:=λl=>by rw[wQ,map_map];exact(map_congr_left λt _=>rfl).trans (map_id _)
 refine⟨y.map (λx=>x.H.toNat),?_,?_,?_⟩
 ·rw[wQ,map_map];refine((map_congr_left λx hx=>?_).trans (map_id y)).symm;obtain⟨t,_,rfl⟩:=hy x hx;rfl
 ·grind
 ·rw[pairwise_map];refine hs.imp_of_mem λ{a b} h1 h2 h=>?_;obtain⟨u,hu,rfl⟩:=hy a h1;obtain⟨v,hv,rfl⟩:=hy b h2;rw[K7 (hb v hv) (hb u hu)]at h;simp only[toNat_natCast];unfold qP at h ⊢;omega
section
variable{f:GFormula}
theorem M7:nwE E s<2^E.length:=Ry _
theorem MA(g:FG f)(s:Nat):Bo f (nwE (d_ f) s)=FV f s:=by
 refine Ls g λi hi hm=>?_;have SC:i∈d_ f:=wU.2 ⟨by have:=g.v0;omega,hm⟩;obtain⟨j,hj,VY⟩:=List.mem_iff_getElem.1 SC;rw[Bool.eq_iff_iff,qa];constructor;·grind [nwE,QS]
 ·intro h;refine⟨j,hj,?_,by rw[qt hj,VY]⟩;rw[nwE,QS,decide_eq_true hj,Bool.true_and,qt hj,VY];exact h
theorem JU(g:FG f)(hM:JB f)(hV:f.Y<=8):yq (Bo f) (d_ f).length:=λr u _ _ h ht=>by have hw:∀s,wd (d_ f) s (d_ f).length<4294967296:=λs=>Nat.lt_trans (vO (n:=8) (E_ hV) (le_refl _)) (by decide);exact hM _ _ (hw r) (hw u) (JQ h _) ht
theorem Lo(g:FG f)(hV:f.Y<=8)(hc:Vu f){Q:List Q3->Option Int->Prop}(hQ:∀m,Qw f.Y.toNat (FV f) m->Q (wQ m) none):jN f Q:=by
 have v0:=g.v0;refine JT g hV λtr YC htr=>⟨λh=>(by cases h),λx hx=>?_⟩;cases hx;refine aB (λh=>by cases h) (λ_=>?_)
 have hm:=JU g (DI g hc) hV;have adU:∀s,wd (d_ f) s (d_ f).length<256:=λs=>vO (n:=8) (E_ hV) (le_refl _);have hn:=E9 hV;refine Ih hn (E_ hV) YC htr hm λy hp hs=>?_;have e:(Vw (Bo f) (d_ f).length (3^(d_ f).length)).map (GU (d_ f))=wQ (((Vw (Bo f) (d_ f).length (3^(d_ f).length)).map (yr (d_ f).length)).map λr=>wd (d_ f) r (d_ f).length):=by rw[wQ,map_map,map_map];rfl
 rw[e]at hp;have Vs:∀t∈((Vw (Bo f) (d_ f).length (3^(d_ f).length)).map (yr (d_ f).length)).map λr=>wd (d_ f) r (d_ f).length,t<256:=λt ht=>by grind
 obtain⟨m,rfl,hpm,Un⟩:=HV Vs hp hs;have hnd:(((Vw (Bo f) (d_ f).length (3^(d_ f).length)).map (yr (d_ f).length)).map λr=>wd (d_ f) r (d_ f).length).Nodup:=by
  rw[List.Nodup,pairwise_map];refine List.Pairwise.imp_of_mem (λ{a b} ha hb QI he=>QI ?_) (Ii hm);obtain⟨c,_,rfl⟩:=List.mem_map.1 ha;obtain⟨d,_,rfl⟩:=List.mem_map.1 hb;refine rQ (DQ xF sE sE ?_) (DQ xF sE sE ?_);·rw[he];exact λi hi=>hi
  ·rw[he];exact λi hi=>hi
 have mem:∀t,t∈m↔∃r,GG (Bo f) (d_ f).length r/\t=wd (d_ f) r (d_ f).length:=λt=>by
  rw[hpm.mem_iff,List.mem_map];constructor;·grind [Fp,xf]
  ·rintro⟨r,hr,rfl⟩;exact⟨r,List.mem_map.2 ⟨YM r (d_ f).length,xf.2 ⟨Ex _ _,Nr hm hr⟩,Lz hr.1⟩,rfl⟩
 refine hQ m ⟨⟨?_,?_⟩,?_,?_⟩;·have hnm:m.Nodup:=hpm.nodup_iff.2 hnd;rw[List.Nodup]at hnm;exact(Un.and hnm).imp λh=>h.1.resolve_right h.2
 ·intro a ha b hb h;obtain⟨r,hr,rfl⟩:=(mem a).1 ha;obtain⟨s,TT,rfl⟩:=(mem b).1 hb;rw[GF hm hr TT (DQ xF hr.1 TT.1 h)]
 ·simp_all [vO,wU]
 ·intro s TT;rw[<-MA g,IL hm M7];constructor;·rintro⟨t,ht,hts⟩;obtain⟨r,hr,rfl⟩:=(mem t).1 ht;exact⟨r,hr,(Iz xF hr.1).1 hts⟩
  ·rintro⟨r,hr,Vy⟩;exact⟨_,(mem _).2 ⟨r,hr,rfl⟩,(Iz xF hr.1).2 Vy⟩
end
def mZ(q:List Rat)(A:List Int)(p:Rat):List Rat:=A.foldl (λq a=>q.set a.toNat (q.getD a.toNat 0+p)) q
def qN(q:List Rat):Nat->Rat
 | 0=>0
 | n+1=>qN q n+q.getD n 0
variable{q:List Rat}
theorem rB{x:Rat}(h:i<q.length):(q.set i x).getD v 0=if v=i then x else q.getD v 0:=by grind
theorem zj{p:Rat}:∀(A:List Int) (q:List Rat),(mZ q A p).length=q.length
 | [],_=>rfl
 | a::A,q=>by have:=zj (p:=p) A (q.set a.toNat (q.getD a.toNat 0+p));rw[length_set]at this;exact this
variable{A:List Int}{p:Rat}
theorem GY:mZ q (A++[a]) p=(mZ q A p).set a.toNat ((mZ q A p).getD a.toNat 0+p):=by simp[mZ]
theorem Bt{q:List Rat}{i:Nat}{p:Rat}(h:i<q.length):∀n,qN (q.set i (q.getD i 0+p)) n=qN q n+if i<n then p else 0
 | 0=>by simp[qN];grind
 | n+1=>by
  rw[qN,qN,Bt h n,rB h];by_cases h1:i<n;·grind
  ·grind
theorem CC{p:Rat}{n:Nat}:∀(A:List Int) (q:List Rat),(∀a∈A,0<=a/\a<n)->n<=q.length->qN (mZ q A p) n=qN q n+(A.length:Rat)*p
 | [],q,_,_=>by simp[mZ];grind
 | a::A,q,h,hn=>by
  have ha:=h a mem_cons_self;have e:mZ q (a::A) p=mZ (q.set a.toNat (q.getD a.toNat 0+p)) A p:=rfl;rw[e,CC A _ (λb hb=>h b (mem_cons_of_mem _ hb)) (by rw[length_set];exact hn),Bt om,if_pos om,length_cons];have:((A.length+1:Nat):Rat)=(A.length:Rat)+1:=by simp
  rw[this];grind
theorem zi{p:Rat}{v:Nat}:∀(A:List Int) (q:List Rat),(∀a∈A,a.toNat≠v)->(∀a∈A,a.toNat<q.length)->(mZ q A p).getD v 0=q.getD v 0
 | [],_,_,_=>rfl
 | a::A,q,h,hl=>by have e:mZ q (a::A) p=mZ (q.set a.toNat (q.getD a.toNat 0+p)) A p:=rfl;rw[e,zi A _ (λb hb=>h b (mem_cons_of_mem _ hb)) (λb hb=>by rw[length_set];exact hl b (mem_cons_of_mem _ hb)),rB (hl a mem_cons_self),if_neg (λhc=>h a mem_cons_self hc.symm)]
theorem Fa{q:List Rat}(h:∀v,0<=q.getD v 0):∀n v,v<n->q.getD v 0<=qN q n
 | 0,v,hv=>om
 | n+1,v,hv=>by
  rw[qN];have hn:=h n;have hs:∀m,0<=qN q m:=λm=>by
   induction m with
   | zero=>exact Rat.le_refl
   | succ m ih=>rw[qN];have:=h m;grind
  by_cases e:v=n;·grind
  ·have:=Fa h n v om;grind
structure WQ(m D:Nat)(q:List Rat):Prop where
 nn:∀v,0<=q.getD v 0
 le:∀v,q.getD v 0<=1
 sum:qN q m<=1
 int:∀v,∃z:Int,q.getD v 0*(D:Rat)=z
theorem Ln{x:Rat}{D e:Nat}{z:Int}(h0:0<=x)(h1:x<=1)(hz:x*(D:Rat)=z)(hD:0<D)(he:D<2^e):RB e x:=by
 have hDr:(0:Rat)<(D:Rat):=by exact_mod_cast hD
 have hx:x=mkRat z D:=by grind [Rat.mkRat_eq_div]
 have z0:0<=z:=by
  have:(0:Rat)<=(z:Rat):=by grind [Rat.mul_nonneg]
  exact_mod_cast this
 have z1:z<=(D:Int):=by
  have:(z:Rat)<=((D:Int):Rat):=by rw[<-hz];have:=Rat.mul_le_mul_of_nonneg_right h1 (Rat.le_of_lt hDr);rw[Rat.one_mul]at this;exact this
  exact_mod_cast this
 rw[hx];exact zu om om he
theorem F8{p:Rat}(hp:0<=p):∀(A:List Int) (q:List Rat),(∀a∈A,a.toNat<q.length)->(∀v,0<=q.getD v 0)->∀v,0<=(mZ q A p).getD v 0
 | [],_,_,h,v=>h v
 | a::A,q,hl,h,v=>by
  have e:mZ q (a::A) p=mZ (q.set a.toNat (q.getD a.toNat 0+p)) A p:=rfl;rw[e];refine F8 hp A _ (λb hb=>by rw[length_set];exact hl b (mem_cons_of_mem _ hb)) (λu=>?_) v;rw[rB (hl a mem_cons_self)];split;·have:=h a.toNat;grind
  ·exact h u
theorem Dx{p:Rat}{D:Nat}(hp:∃z:Int,p*(D:Rat)=z):∀(A:List Int) (q:List Rat),(∀a∈A,a.toNat<q.length)->(∀v,∃z:Int,q.getD v 0*(D:Rat)=z)->∀v,∃z:Int,(mZ q A p).getD v 0*(D:Rat)=z
 | [],_,_,h,v=>h v
 | a::A,q,hl,h,v=>by
  have e:mZ q (a::A) p=mZ (q.set a.toNat (q.getD a.toNat 0+p)) A p:=rfl;rw[e];refine Dx hp A _ (λb hb=>by rw[length_set];exact hl b (mem_cons_of_mem _ hb)) (λu=>?_) v;rw[rB (hl a mem_cons_self)];split;·obtain⟨z1,h1⟩:=h a.toNat;obtain⟨z2,h2⟩:=hp;exact⟨z1+z2,by rw[Rat.add_mul,h1,h2];simp⟩
  ·exact h u
theorem WQ.less{m D:Nat}(h:WQ (m+1) D q):WQ m D q:=⟨h.nn,h.le,by
 have h1:=h.sum;rw[qN]at h1;have:=h.nn m;grind,h.int⟩
section
variable{m D:Nat}{q:List Rat}{A:List Int}
theorem WQ.part(h:WQ (m+1) D q)(hq:m+1<=q.length)(hA:∀a∈A,0<=a/\a<m)(hn:0<A.length)(hj:j<=A.length):WQ m (D*A.length) (mZ q (A.take j) (q.getD m 0/(A.length:Rat))):=by
 have hAj:∀a∈A.take j,0<=a/\a<m:=λa ha=>hA a (List.mem_of_mem_take ha);have hAl:∀a∈A.take j,a.toNat<q.length:=λa ha=>by have:=hAj a ha;omega
 have hnr:(0:Rat)<(A.length:Rat):=by exact_mod_cast hn
 have hw:=h.nn m;have hp:0<=q.getD m 0/(A.length:Rat):=by grind [Rat.mul_nonneg,Rat.inv_pos]
 have U7:(A.length:Rat)*(q.getD m 0/(A.length:Rat))=q.getD m 0:=by grind
 have hnn:=F8 hp (A.take j) q hAl h.nn;have X0:qN (mZ q (A.take j) (q.getD m 0/(A.length:Rat))) m<=1:=by
  rw[CC _ _ hAj om];have h1:=h.sum;rw[qN]at h1;have UM:((A.take j).length:Rat)<=(A.length:Rat):=by
   have:(A.take j).length<=A.length:=by rw[length_take];omega
   exact_mod_cast this
  have h2:=Rat.mul_le_mul_of_nonneg_right UM hp;grind
 refine⟨hnn,λv=>?_,X0,Dx ?_ _ _ hAl (λv=>?_)⟩
 ·rcases lt_or_ge v m with hv|hv;·have:=Fa hnn m v hv;grind
  ·rw[zi _ _ (λa ha=>by have:=hAj a ha;omega) hAl];exact h.le v
 ·obtain⟨z,hz⟩:=h.int m;refine⟨z,?_⟩;rw[<-hz];have e:((D*A.length:Nat):Rat)=(D:Rat)*(A.length:Rat):=by simp
  rw[e];grind
 ·obtain⟨z,hz⟩:=h.int v;refine⟨z*(A.length:Int),?_⟩;have e:((D*A.length:Nat):Rat)=(D:Rat)*(A.length:Rat):=by simp
  have e2:((z*(A.length:Int):Int):Rat)=(z:Rat)*(A.length:Rat):=by rw[Rat.intCast_mul];rfl
  rw[e,e2,<-hz];grind
end
def WL(l:List QB)(q:List Rat):Prop:=l.length=q.length/\∀i:Nat,i<l.length->Fr (P9 l (i:Int))/\fO (P9 l (i:Int))=q.getD i 0
theorem WL.Qt{l:List QB}{q:List Rat}{i:Nat}{x:QB}{p:Rat}(h:WL l q)(hi:i<l.length)(hf:Fr x)(hv:fO x=p):WL (Qt l (i:Int) x) (q.set i p):=by
 refine⟨by rw[ck,length_set];exact h.1,λj hj=>?_⟩;rw[ck]at hj;rw[dO hi,rB (by have:=h.1;omega)];split;·exact⟨hf,hv⟩
 ·exact h.2 j hj
theorem WL.rp{l:List QB}{m D e:Nat}(h:WL l q)(hq:WQ m D q)(hD:0<D)(YK:D<2^e)(hi:i<l.length):Rp e (P9 l (i:Int)) (q.getD i 0):=by have h1:=h.2 i hi;obtain⟨z,hz⟩:=hq.int i;exact⟨h1.1,h1.2,Ln (hq.nn i) (hq.le i) hz hD YK⟩
section
variable{f:GFormula}
def nh(f:GFormula)(i:Nat):List Int:=(P9 f.N (i:Int)).Z
def sT(f:GFormula)(i:Nat)(q:List Rat):List Rat:=if q.getD (f.Y.toNat+i) 0=0\/(nh f i).length=0 then q else mZ q (nh f i) (q.getD (f.Y.toNat+i) 0/((nh f i).length:Rat))
def Uj(f:GFormula):Nat->List Rat
 | 0=>(replicate (f.Y.toNat+f.N.length) 0).set f.A.toNat 1
 | k+1=>sT f (f.N.length-1-k) (Uj f k)
theorem rM:∀k,(Uj f k).length=f.Y.toNat+f.N.length
 | 0=>by simp[Uj]
 | k+1=>by
  rw[Uj,sT];split;·exact rM k
  ·rw[zj];exact rM k
theorem xS:(replicate n (0:Rat)).getD v 0=0:=by grind
theorem CB{n:Nat}:∀m,qN (replicate n (0:Rat)) m=0
 | 0=>rfl
 | m+1=>by rw[qN,CB m,xS];grind
theorem wt0(g:FG f):WQ (f.Y.toNat+f.N.length) 1 (Uj f 0):=by
 have hv0:=g.v0;have ht0:=g.Sd;have ht:=g.top;have hl:f.A.toNat<(replicate (f.Y.toNat+f.N.length) (0:Rat)).length:=by grind
 have e:(1:Rat)=(replicate (f.Y.toNat+f.N.length) (0:Rat)).getD f.A.toNat 0+1:=by rw[xS];grind
 have hval:∀v,(Uj f 0).getD v 0=0\/(Uj f 0).getD v 0=1:=λv=>by grind [Uj]
 refine⟨λv=>by rcases hval v with h|h<;>rw[h]<;>decide,λv=>by rcases hval v with h|h<;>rw[h]<;>decide,?_,λv=>?_⟩
 ·grind [Uj,Bt,CB]
 ·rcases hval v with h|h;·exact⟨0,by rw[h];simp⟩
  ·exact⟨1,by rw[h];simp⟩
theorem EU(g:FG f):∀k,k<=f.N.length->∃D,0<D/\D<2^(4*k+1)/\WQ (f.Y.toNat+(f.N.length-k)) D (Uj f k)
 | 0,_=>⟨1,om,by simp,wt0 g⟩
 | k+1,hk=>by
  obtain⟨D,h1,h2,h3⟩:=EU g k om;have hv0:=g.v0;obtain⟨i,hi⟩:∃i,i=f.N.length-1-k:=⟨_,rfl⟩;have SV:i<f.N.length:=om;have e:f.Y.toNat+(f.N.length-k)=f.Y.toNat+i+1:=om;have e':f.Y.toNat+(f.N.length-(k+1))=f.Y.toNat+i:=om;rw[e]at h3;rw[e'];have hA:=qy g SV;have Yj:=(dq (g.node i SV)).len;have hp:2^(4*(k+1)+1)=2^(4*k+1)*16:=by grind
  have Uh:0<2^(4*k+1):=pow_pos om;rw[Uj,<-hi,sT];split;·exact⟨D,h1,om,h3.less⟩
  ·rename_i hc;have hn:0<(nh f i).length:=om;have hlen:=rM (f:=f) k;have h4:=h3.part (A:=nh f i) om (λa ha=>by have:=hA a ha;omega) hn (le_refl _);rw[List.take_of_length_le (le_refl _)]at h4;refine⟨D*(nh f i).length,Nat.mul_pos h1 hn,?_,h4⟩;rw[hp];have ahY:(nh f i).length<=16:=Yj;exact Nat.lt_of_le_of_lt (Nat.mul_le_mul_left D ahY) (Nat.mul_lt_mul_of_pos_right h2 om)
theorem H2{l:List QB}{m D e:Nat}{sh:QB}{Q:List QB->Prop}(hw:WL l q)(hA:∀a∈A,0<=a/\a<l.length)(Yj:A.length<=16)(hsh:Rp (e+64) sh p)(hD:0<D)(YK:D<2^e)(he:e<=1000)(hq:∀j,j<=A.length->WQ m D (mZ q (A.take j) p))(hQ:∀l',WL l' (mZ q A p)->Q l') :aO (σ:=Int×(List QB)) (0,l) λ⟨x2,x3⟩ Qd=>
        af (decide (x2<(A.length:Int)))
         (((0:Int)<=x2/\x2<(A.length:Int))/\
         ((0:Int)<=(P9 A x2)/\(P9 A x2)<(x3.length:Int))/\
         my (fD (P9 x3 (P9 A x2)) sh) λr5=>
         ((0:Int)<=(P9 A x2)/\(P9 A x2)<(x3.length:Int))/\
         Qe (x2+1)/\
         Qd ((x2+1),(Qt x3 (P9 A x2) r5)))
         (Q x3):=by
 refine bu (n:=A.length) (λj y=>y.1=(j:Int)/\WL y.2 (mZ q (A.take j) p)) (λy=>y.1) 0 (λj y hy=>by rw[hy.1];omega) ⟨rfl,hw⟩ ?_ ?_
 ·rintro j ⟨x2,x3⟩ next hj ⟨hx,hW⟩ hn
  dsimp only at hx hW;subst hx;have hl:x3.length=l.length:=by have:=hW.1;rw[zj]at this;have:=hw.1;omega
  have ha:=hA _ (qK hj);obtain⟨a,Zm⟩:∃a:Nat,P9 A (j:Int)=a:=⟨(P9 A (j:Int)).toNat,om⟩;have e1:A.take (j+1)=A.take j++[P9 A (j:Int)]:=jC hj;rw[Zm]at ha;refine Qb (λ_=>⟨⟨om,om⟩,by rw[Zm];omega,?_⟩) (λhc=>absurd (show(j:Int)<A.length by omega) hc);rw[Zm];refine NC (hW.rp (hq j om) hD YK om) hsh (by show e+(e+64)+1<=35184372088000;omega) (λhr=>⟨om,Qo,hn _ ⟨by dsimp only;omega,?_⟩⟩);dsimp only;rw[e1,GY,Zm,toNat_natCast];exact hW.Qt om hr.1 hr.2.1
 ·grind [Qb]
def ltW(q:List Rat)(a b:Int):Bool:=decide (q.getD b.toNat 0<q.getD a.toNat 0)
def p_(f:GFormula):List Int:=jQ (ltW (Uj f f.N.length)) (ry f.Y.toNat)
theorem Lj{l:List Int}{u:List QB}{m D e:Nat}{Q:List Int->Prop}(hw:WL u q)(hq:WQ m D q)(hD:0<D)(YK:D<2^e)(he:e<=1000)(hl:l.length<20)(hu:∀x∈l,0<=x/\x<u.length)(hQ:Q (jQ (ltW q) l)):cW l u Q:=by
 have e1:jQ (ltW q) l=jQ (λx y=>decide (wo (q.getD y.toNat 0-q.getD x.toNat 0)<0)) l:=De l (λx _ y _=>by
  unfold ltW;refine decide_eq_decide.2 ?_;rw[H5];constructor<;>intro h<;>grind)
 rw[e1]at hQ;refine Gj (C:=λx y K=>ik x y u K) (c:=λx y=>wo (q.getD y.toNat 0-q.getD x.toNat 0)) (Q:=λx1=>x1.length=l.length/\Q x1) (λx hx y hy K hK=>?_) hl ⟨rY,hQ⟩;have h1:=hu x hx;have h2:=hu y hy;obtain⟨a,rfl⟩:∃a:Nat,x=a:=⟨x.toNat,om⟩;obtain⟨b,rfl⟩:∃b:Nat,y=b:=⟨y.toNat,om⟩;exact⟨h2,h1,Ns (hw.rp hq hD YK om) (hw.rp hq hD YK om) (by show e+e+1<=35184372088000;omega) hK⟩
theorem EF(ht:Qe f.A)(h0:qw f≠0->Q [] (some (qw f)))(hf:FG f->f.Y<20)(h1:FG f->Q (p_ f) none):ly f Q:=by
 refine eV ht (OR (λhc=>by rw[yP hc];exact h0 hc) (λhz=>?_))
 have g:=kM.1 hz;have hv0:=g.v0;have XW:=g.v24;have hn:=g.n128;have ht0:=g.Sd;have YC:=g.top;have h20:=hf g;have hQ:=h1 g;obtain⟨n,WB⟩:∃n:Nat,f.Y=n:=⟨f.Y.toNat,om⟩;obtain⟨e,he⟩:∃e,e=4*f.N.length+1:=⟨_,rfl⟩;have Un:∀k D,k<=f.N.length->D<2^(4*k+1)->D<2^e:=λk D hk hD=>lt_of_lt_of_le hD (pow_le_pow_right om om);refine⟨Qo,⟨om,om,om,om⟩,LL Qo (λhr=>⟨om,?_⟩)⟩
 obtain⟨top,Ue⟩:∃t:Nat,f.A=t:=⟨f.A.toNat,om⟩;refine⟨Qo,λk y=>WL y (Uj f k),?_,λk hk j x hj hx y hy=>?_,λy hy=>?_⟩
 ·rw[Ue];have hz:WL (bA (f.Y+(f.N.length:Int)) (⟨false,[],[]⟩:QB)) (replicate (f.Y.toNat+f.N.length) 0):=by
   refine⟨by simp[bA];omega,λi hi=>?_⟩;have hlen:(bA (f.Y+(f.N.length:Int)) (⟨false,[],[]⟩:QB)).length=f.Y.toNat+f.N.length:=by simp[bA];omega
   rw[xS,show P9 (bA (f.Y+(f.N.length:Int)) (⟨false,[],[]⟩:QB)) (i:Int)=⟨false,[],[]⟩by rw[AR hi];simp[bA]];have:=Rp.zero (k:=1) om (by decide);exact⟨this.1,this.2.1⟩
  have hl:(bA (f.Y+(f.N.length:Int)) (⟨false,[],[]⟩:QB)).length=f.Y.toNat+f.N.length:=by simp[bA];omega
  have:=hz.Qt (i:=top) (x:=ey ((1:Int):Rat)) (p:=1) om hr.1 (by rw[hr.2.1];rfl);show WL _ (Uj f 0);rw[Uj,Ue,toNat_natCast];exact this
 ·obtain⟨i,hi⟩:∃i,i=f.N.length-1-k:=⟨_,rfl⟩;have SV:i<f.N.length:=om;have VY:j=(i:Int):=om;subst VY;have hyl:y.length=f.Y.toNat+f.N.length:=by rw[hy.1,rM]
  have ail:f.Y+(i:Int)=((f.Y.toNat+i:Nat):Int):=om;obtain⟨D,d1,d2,d3⟩:=EU g k om;have d2':=Un k D om d2;have hA:=qy g SV;have Yj:(nh f i).length<=16:=(dq (g.node i SV)).len;have hxA:x.Z=nh f i:=by rw[hx];rfl
  rw[ail,hxA];have hrp:=hy.rp d3 d1 d2' (i:=f.Y.toNat+i) om;have Uf:Uj f (k+1)=sT f i (Uj f k):=by rw[Uj,<-hi]
  refine⟨Qo,om,MJ hrp (bk (λhs=>?_) (λhs=>bk (λha=>?_) (λha=>?_)))⟩
  ·grind [Fi,sT]
  ·grind [sT]
  ·have hw0:(Uj f k).getD (f.Y.toNat+i) 0≠0:=λhc=>hs (Fi.2 hc);have hnn:0<(nh f i).length:=om;have adk:Uj f (k+1)=mZ (Uj f k) (nh f i) ((Uj f k).getD (f.Y.toNat+i) 0/((nh f i).length:Rat)):=by grind [sT]
   have hlr:((((nh f i).length:Nat):Int):Rat)≠0:=by simp_all
   refine LL Qo (λho=>Nn hrp ho (by show e+64+1<=35184372088000;omega) hlr (λhd=>aB (λhb=>by cases hb) (λ_=>?_)))
   have em:f.Y.toNat+(f.N.length-k)=f.Y.toNat+i+1:=om;rw[em]at d3;obtain⟨D',p1,p2,_⟩:=EU g (k+1) om;have YK:D*(nh f i).length<2^e:=by
    have q1:D*(nh f i).length<2^(4*(k+1)+1):=by rw[show 4*(k+1)+1=(4*k+1)+4 by omega,Nat.pow_add];exact Nat.lt_of_le_of_lt (Nat.mul_le_mul_left D Yj) (Nat.mul_lt_mul_of_pos_right d2 om)
    exact Un (k+1) _ om q1
   refine H2 (e:=e) (D:=D*(nh f i).length) (m:=f.Y.toNat+i) hy (λa ha=>by have:=hA a ha;omega) Yj hd (Nat.mul_pos d1 hnn) YK om (λj hj=>?_) (λl' UY=>?_);·exact d3.part (by rw[rM];omega) (λa ha=>by have:=hA a ha;omega) hnn hj
   ·show WL l' (Uj f (k+1));rw[adk];exact UY
 ·obtain⟨D,d1,d2,d3⟩:=EU g f.N.length (le_refl _);have hyl:y.length=f.Y.toNat+f.N.length:=by rw[hy.1,rM]
  rw[WB];refine Ax om ?_;have hwO:p_ f=jQ (ltW (Uj f f.N.length)) (ry n):=by grind [p_]
  refine Lj hy d3 d1 (Un _ _ (le_refl _) d2) om (by rw[jm];omega) (λx hx=>by have:=yv.1 hx;omega) ⟨rY,?_⟩;rw[<-hwO];exact hQ
end
end Go.Gg
