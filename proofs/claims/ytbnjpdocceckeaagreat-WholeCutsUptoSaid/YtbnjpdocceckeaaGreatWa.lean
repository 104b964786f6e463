/- The structures of the program and how they are encoded. Conditions: none. -/
import Derived.Test.YtbnjpdocceckeaaGreatGc
import Derived.Test.YtbnjpdocceckeaaGreatGd
import Derived.Test.YtbnjpdocceckeaaGreatGf
set_option linter.all false
open Int (tdiv tmod toNat)
open Go.IntKind (wrap)
open Option (getD isNone isSome)
namespace Go.Gg
structure QN where
 U:Int
 K:Int
 Z:List Int
instance:Inhabited QN:=⟨⟨0,0,[]⟩⟩
def bT(r:QN):AV:=.agg [.int .i64 r.U,.int .i64 r.K,eL (AV.int .i64) r.Z]
structure GFormula where
 Y:Int
 N:List QN
 A:Int
instance:Inhabited GFormula:=⟨⟨0,[],0⟩⟩
def aD(r:GFormula):AV:=.agg [.int .i64 r.Y,eL bT r.N,.int .i64 r.A]
structure Q3 where
 H:Int
 No:Int
instance:Inhabited Q3:=⟨⟨0,0⟩⟩
def mv(r:Q3):AV:=.agg [.int .i64 r.H,.int .i64 r.No]
structure QB where
 X:Bool
 J:List Int
 L:List Int
instance:Inhabited QB:=⟨⟨false,[],[]⟩⟩
def dw(r:QB):AV:=.agg [.bool r.X,eL (AV.int .u32) r.J,eL (AV.int .u32) r.L]
structure Grow where
 events:Int
 nodes:Int×Int
instance:Inhabited Grow:=⟨⟨0,(0,0)⟩⟩
def bf(r:Grow):AV:=.agg [.int .i64 r.events,.int .u64 r.nodes.1,.int .u64 r.nodes.2]
structure P' where
 T:Int
 F:Int
 D:Int
instance:Inhabited P':=⟨⟨0,0,0⟩⟩
def aw(r:P'):AV:=.agg [.int .i64 r.T,.int .i64 r.F,.int .i64 r.D]
structure Q4 where
 N:List P'
 V:Int
instance:Inhabited Q4:=⟨⟨[],0⟩⟩
def kE(r:Q4):AV:=.agg [eL aw r.N,.int .i64 r.V]
structure Qs where
 M:List Int
 N:List P'
 V:Int
instance:Inhabited Qs:=⟨⟨[],[],0⟩⟩
def dx(r:Qs):AV:=.agg [eL (AV.int .i64) r.M,eL aw r.N,.int .i64 r.V]
structure abv where
 events:List Int
 true:List Bool
instance:Inhabited abv:=⟨⟨[],[]⟩⟩
structure Yt where
 op:Int
 a:Int
 b:Int
instance:Inhabited Yt:=⟨⟨0,0,0⟩⟩
def oE(x:Int):Int:=(List.range 24).foldl (λa i=>a+x/2^i%2) 0
def oI(a b:Int):Int:=if a<b then -1 else if b<a then 1 else 0
def Ub(a b:Int):Int:=if a=0 then b else a
def rJ(a b:Int):Int:=Ub (oI (oE a) (oE b)) (oI a b)
def Y4(x:Int):Prop:=0<=x/\x<256
def uz(a b:Q3):Int:=Ub (oI (oE (bits .or .i64 a.H a.No)) (oE (bits .or .i64 b.H b.No))) (Ub (oI a.H b.H) (oI a.No b.No))
def okC(x:Q3):Prop:=Y4 x.H/\Y4 x.No
def dI:ByteArray:=⟨#[0,1,2,2,3,3,3,3,4,4,4,4,4,4,4,4,5,5,5,5,5,5,5,5,5,5,5,5,5,5,5,5,6,6,6,6,6,6,6,6,6,6,6,6,6,6,6,6,6,6,6,6,6,6,6,6,6,6,6,6,6,6,6,6,7,7,7,7,7,7,7,7,7,7,7,7,7,7,7,7,7,7,7,7,7,7,7,7,7,7,7,7,7,7,7,7,7,7,7,7,7,7,7,7,7,7,7,7,7,7,7,7,7,7,7,7,7,7,7,7,7,7,7,7,7,7,7,7,8,8,8,8,8,8,8,8,8,8,8,8,8,8,8,8,8,8,8,8,8,8,8,8,8,8,8,8,8,8,8,8,8,8,8,8,8,8,8,8,8,8,8,8,8,8,8,8,8,8,8,8,8,8,8,8,8,8,8,8,8,8,8,8,8,8,8,8,8,8,8,8,8,8,8,8,8,8,8,8,8,8,8,8,8,8,8,8,8,8,8,8,8,8,8,8,8,8,8,8,8,8,8,8,8,8,8,8,8,8,8,8,8,8,8,8,8,8,8,8,8,8,8,8,8,8,8,8]⟩
def il(x:Int)(Q:Int->Prop):Prop:=bV (α:=Int×Int) (λnext3=>
  af (decide (4294967296<=x))
   (next3 ((x/2^(toNat 32)),32))
   (next3 (x,0)))
  λ⟨x1,n⟩=>
  bV (α:=Int×Int) (λQd=>
   af (decide (65536<=x1))
    (Qe (n+16)/\
    Qd ((x1/2^(toNat 16)),(n+16)))
    (Qd (x1,n)))
   λ⟨x2,n1⟩=>
   bV (α:=Int×Int) (λQc=>
    af (decide (256<=x2))
     (Qe (n1+8)/\
     Qc ((x2/2^(toNat 8)),(n1+8)))
     (Qc (x2,n1)))
    λ⟨x3,n2⟩=>
    ((0:Int)<=(wrap .u8 x3)/\(wrap .u8 x3)<(dI.size:Int))/\
    Qe (n2+(wrap .i64 (pq dI (toNat (wrap .u8 x3)))))/\
    kf (n2+(wrap .i64 (pq dI (toNat (wrap .u8 x3))))) λn3=>
    Q n3
def dt(x:Int)(Q:Int->Prop):Prop:=
 kf (wrap .u64 ((bits .and .u64 (x/2^(toNat 1)) 6148914691236517205)+(bits .and .u64 x 6148914691236517205))) λx1=>
 kf (wrap .u64 ((bits .and .u64 (x1/2^(toNat 2)) 3689348814741910323)+(bits .and .u64 x1 3689348814741910323))) λx2=>
 kf (bits .and .u64 (wrap .u64 ((x2/2^(toNat 4))+x2)) 1085102592571150095) λx3=>
 kf (wrap .u64 (x3+(x3/2^(toNat 8)))) λx4=>
 kf (wrap .u64 (x4+(x4/2^(toNat 16)))) λx5=>
 kf (wrap .u64 (x5+(x5/2^(toNat 32)))) λx6=>
 Q (bits .and .i64 (wrap .i64 x6) 127)
def fM(x:Int)(Q:Int->Prop):Prop:=
 dt x λr=>
 Q r
def im(x:Int)(Q:Int->Prop):Prop:=bV (α:=Int×Int) (λQd=>
  af (decide (65536<=x))
   (Qd ((x/2^(toNat 16)),16))
   (Qd (x,0)))
  λ⟨x1,n⟩=>
  bV (α:=Int×Int) (λQc=>
   af (decide (256<=x1))
    (Qe (n+8)/\
    Qc ((x1/2^(toNat 8)),(n+8)))
    (Qc (x1,n)))
   λ⟨x2,n1⟩=>
   ((0:Int)<=(wrap .u8 x2)/\(wrap .u8 x2)<(dI.size:Int))/\
   Qe (n1+(wrap .i64 (pq dI (toNat (wrap .u8 x2)))))/\
   kf (n1+(wrap .i64 (pq dI (toNat (wrap .u8 x2))))) λn2=>
   Q n2
def oe(a:List Int)(Q:Int->Prop):Prop:=
 Qe ((a.length:Int)-1)/\
 aO (σ:=Int) ((a.length:Int)-1) λi Qc=>
  af (decide (0<=i))
   (((0:Int)<=i/\i<(a.length:Int))/\
   af ((P9 a i) != 0)
    (Qe (32*i)/\
    ((0:Int)<=i/\i<(a.length:Int))/\
    im (P9 a i) λr=>
    Qe ((32*i)+r)/\
    Q ((32*i)+r))
    (Qe (i-1)/\
    Qc (i-1)))
   (Q 0)
def bO(a:List Int)(Q:List Int->Prop):Prop:=bV (α:=Int) (λQc=>aO (σ:=Int) (a.length:Int) λn1 Qd=>
   af (decide (0<n1))
    (Qe (n1-1)/\
    ((0:Int)<=(n1-1)/\(n1-1)<(a.length:Int))/\
    af ((P9 a (n1-1))==0)
     (Qe (n1-1)/\
     Qd (n1-1))
     (Qc n1))
    (Qc n1))
  λn=>
  af (n==0)
   (Q [])
   (((0:Int)<=0/\0<=n/\n<=(a.length:Int))/\
   ((([]:List Int)++(fV a 0 n)).length*4<=140737488355328)/\
   Q (([]:List Int)++(fV a 0 n)))
def ft(a b:List Int)(Q:Int->Prop):Prop:=
 bO a λa1=>
 bO b λb1=>
 af ((a1.length:Int) != (b1.length:Int))
  (af (decide ((a1.length:Int)<(b1.length:Int)))
   (Q (-1))
   (Q 1))
  (Qe ((a1.length:Int)-1)/\
  aO (σ:=Int) ((a1.length:Int)-1) λi Qc=>
   af (decide (0<=i))
    (((0:Int)<=i/\i<(a1.length:Int))/\
    ((0:Int)<=i/\i<(b1.length:Int))/\
    af (decide ((P9 a1 i)<(P9 b1 i)))
     (Q (-1))
     (((0:Int)<=i/\i<(a1.length:Int))/\
     ((0:Int)<=i/\i<(b1.length:Int))/\
     af (decide ((P9 b1 i)<(P9 a1 i)))
      (Q 1)
      (Qe (i-1)/\
      Qc (i-1))))
    (Q 0))
def nt(n:Int)(Q:List Int->Prop):Prop:=
 af (decide (n<=0))
  (Q [])
  (bO [(wrap .u32 n),(wrap .u32 (n/2^(toNat 32)))] λr=>
  Q r)
def jv(a:List Int)(b:Int)(Q:List Int->Int->Prop):Prop:=
 jo 4 (a.length:Int) (a.length:Int)/\
 Qe ((a.length:Int)-1)/\
 aO (σ:=Int×Int×(List Int)) (0,((a.length:Int)-1),(bA (a.length:Int) 0)) λ⟨rest,i,out⟩ Qc=>
  af (decide (0<=i))
   (((0:Int)<=i/\i<(a.length:Int))/\
   kf (bits .or .u64 (wrap .u64 (rest*2^(toNat 32))) (wrap .u64 (P9 a i))) λSJ=>
   (wrap .u64 b)≠0/\
   ((0:Int)<=i/\i<(out.length:Int))/\
   (wrap .u64 b)≠0/\
   Qe (i-1)/\
   Qc ((tmod SJ (wrap .u64 b)),(i-1),(Qt out i (wrap .u32 (wrap .u64 (tdiv SJ (wrap .u64 b)))))))
   (bO out λr=>
   Q r (wrap .u32 rest))
def fG(x:Int)(Q:Int->Prop):Prop:=
 im x λr=>
 Qe (32-r)/\
 Q (32-r)
def fE(a:List Int)(n:Int)(Q:List Int->Prop):Prop:=
 Qe ((a.length:Int)+1)/\
 jo 4 ((a.length:Int)+1) ((a.length:Int)+1)/\
 aO (σ:=Int×(List Int)) (0,(bA ((a.length:Int)+1) 0)) λ⟨x,out⟩ Qc=>
  af (decide (x<(a.length:Int)))
   (((0:Int)<=x/\x<(a.length:Int))/\
   ((0:Int)<=n/\n<=64)/\
   kf (wrap .u64 ((wrap .u64 (P9 a x))*2^(toNat n))) λy1=>
   ((0:Int)<=x/\x<(out.length:Int))/\
   ((0:Int)<=x/\x<(out.length:Int))/\
   Qe (x+1)/\
   ((0:Int)<=(x+1)/\(x+1)<(out.length:Int))/\
   Qe (x+1)/\
   Qc ((x+1),(Qt (Qt out x (bits .or .u32 (P9 out x) (wrap .u32 y1))) (x+1) (wrap .u32 (y1/2^(toNat 32))))))
   (Q out)
def da(a:List Int)(i:Int)(Q:Int->Prop):Prop:=
 af (decide (i<(a.length:Int)))
  (((0:Int)<=i/\i<(a.length:Int))/\
  Q (wrap .u64 (P9 a i)))
  (Q 0)
def oc(u:List Int)(uo ul:Nat)(v:List Int)(n:Int)(Q:List Int->Bool->Prop):Prop:=aO (σ:=Int×Int×Int×(List Int)) (0,0,0,u) λ⟨carry,borrow,x,u1⟩ Qc=>
  af (decide (x<(ul:Int)))
   (da v x λr=>
   kf (wrap .u64 (carry+(wrap .u64 (n*r)))) λRk=>
   ((0:Int)<=x/\x<(ul:Int))/\
   (toNat ((uo:Int)+x))<u1.length/\
   kf (wrap .u64 ((wrap .u64 ((wrap .u64 (P9 u1 ((uo:Int)+x)))-(wrap .u64 (wrap .u32 Rk))))-borrow)) λd=>
   ((0:Int)<=x/\x<(ul:Int))/\
   (toNat ((uo:Int)+x))<u1.length/\
   Qe (x+1)/\
   Qc ((Rk/2^(toNat 32)),(d/2^(toNat 63)),(x+1),(Qt u1 ((uo:Int)+x) (wrap .u32 d))))
   (Q u1 (borrow==1))
def od(u:List Int)(uo ul:Nat)(v:List Int)(Q:List Int->Prop):Prop:=aO (σ:=Int×Int×(List Int)) (0,0,u) λ⟨carry,x,u1⟩ Qc=>
  af (decide (x<(ul:Int)))
   (((0:Int)<=x/\x<(ul:Int))/\
   (toNat ((uo:Int)+x))<u1.length/\
   my (da v x) λr=>
   ((0:Int)<=x/\x<(ul:Int))/\
   (toNat ((uo:Int)+x))<u1.length/\
   kf ((wrap .u64 (carry+(wrap .u64 ((wrap .u64 (P9 u1 ((uo:Int)+x)))+r))))/2^(toNat 32)) λRk=>
   Qe (x+1)/\
   Qc (Rk,(x+1),(Qt u1 ((uo:Int)+x) (wrap .u32 (wrap .u64 (carry+(wrap .u64 ((wrap .u64 (P9 u1 ((uo:Int)+x)))+r))))))))
   (Q u1)
def jw(a:List Int)(n:Int)(Q:List Int->Prop):Prop:=
 jo 4 (a.length:Int) (a.length:Int)/\
 aO (σ:=Int×(List Int)) (0,(bA (a.length:Int) 0)) λ⟨x,out⟩ Qc=>
  af (decide (x<(a.length:Int)))
   (da a x λr=>
   Qe (x+1)/\
   da a (x+1) λr1=>
   ((0:Int)<=n/\n<=64)/\
   ((0:Int)<=x/\x<(out.length:Int))/\
   Qe (x+1)/\
   Qc ((x+1),(Qt out x (wrap .u32 ((bits .or .u64 r (wrap .u64 (r1*2^(toNat 32))))/2^(toNat n))))))
   (Q out)
def jl(a b:List Int)(Q:List Int->List Int->Option Int->Prop):Prop:=
 bO a λa1=>
 bO b λb1=>
 af ((b1.length:Int)==0)
  (Q [] [] (some 8))
  (ft a1 b1 λr=>
  af (decide (r<0))
   (Q [] a1 none)
   (af ((b1.length:Int)==1)
    (((0:Int)<=0/\0<(b1.length:Int))/\
    jv a1 (P9 b1 0) λr1 r2=>
    nt (wrap .i64 r2) λr3=>
    Q r1 r3 none)
    (Qe ((b1.length:Int)-1)/\
    ((0:Int)<=((b1.length:Int)-1)/\((b1.length:Int)-1)<(b1.length:Int))/\
    fG (P9 b1 ((b1.length:Int)-1)) λn=>
    fE b1 n λr4=>
    ((0:Int)<=0/\0<=(b1.length:Int)/\(b1.length:Int)<=(r4.length:Int))/\
    kf (fV r4 0 (b1.length:Int)) λv=>
    fE a1 n λu=>
    Qe ((v.length:Int)-1)/\
    ((0:Int)<=((v.length:Int)-1)/\((v.length:Int)-1)<(v.length:Int))/\
    Qe ((v.length:Int)-2)/\
    ((0:Int)<=((v.length:Int)-2)/\((v.length:Int)-2)<(v.length:Int))/\
    Qe ((u.length:Int)-(v.length:Int))/\
    jo 4 ((u.length:Int)-(v.length:Int)) ((u.length:Int)-(v.length:Int))/\
    Qe (((toNat ((u.length:Int)-(v.length:Int))):Int)-1)/\
    kf (((toNat ((u.length:Int)-(v.length:Int))):Int)-1) λj=>
    aO (σ:=Int×(List Int)×(List Int)) (j,u,(bA ((u.length:Int)-(v.length:Int)) 0)) λ⟨j1,u1,q⟩ Qc=>
     af (decide (0<=j1))
      (Qe (j1+(v.length:Int))/\
      ((0:Int)<=(j1+(v.length:Int))/\(j1+(v.length:Int))<(u1.length:Int))/\
      Qe (j1+(v.length:Int))/\
      Qe ((j1+(v.length:Int))-1)/\
      ((0:Int)<=((j1+(v.length:Int))-1)/\((j1+(v.length:Int))-1)<(u1.length:Int))/\
      (wrap .u64 (P9 v ((v.length:Int)-1)))≠0/\
      (wrap .u64 (P9 v ((v.length:Int)-1)))≠0/\
      bV (α:=Int) (λnext3=>aO (σ:=Int×Int) ((wrap .u64 (tdiv (bits .or .u64 (wrap .u64 ((wrap .u64 (P9 u1 (j1+(v.length:Int))))*2^(toNat 32))) (wrap .u64 (P9 u1 ((j1+(v.length:Int))-1)))) (wrap .u64 (P9 v ((v.length:Int)-1))))),(tmod (bits .or .u64 (wrap .u64 ((wrap .u64 (P9 u1 (j1+(v.length:Int))))*2^(toNat 32))) (wrap .u64 (P9 u1 ((j1+(v.length:Int))-1)))) (wrap .u64 (P9 v ((v.length:Int)-1))))) λ⟨RU,rest⟩ QD=>bV (α:=Unit) (λRo=>
         af (decide (4294967296<=RU))
          (Ro ())
          (Qe (j1+(v.length:Int))/\
          Qe ((j1+(v.length:Int))-2)/\
          ((0:Int)<=((j1+(v.length:Int))-2)/\((j1+(v.length:Int))-2)<(u1.length:Int))/\
          af (decide ((bits .or .u64 (wrap .u64 (rest*2^(toNat 32))) (wrap .u64 (P9 u1 ((j1+(v.length:Int))-2))))<(wrap .u64 (RU*(wrap .u64 (P9 v ((v.length:Int)-2)))))))
           (Ro ())
           (next3 RU)))
         λ_=>
         kf (wrap .u64 (rest+(wrap .u64 (P9 v ((v.length:Int)-1))))) λSJ=>
         af (decide (4294967296<=SJ))
          (next3 (wrap .u64 (RU-1)))
          (QD ((wrap .u64 (RU-1)),SJ)))
       λWH=>
       bV (α:=Int×(List Int)) (λQd=>
        Qe (j1+(v.length:Int))/\
        Qe ((j1+(v.length:Int))+1)/\
        ((0:Int)<=j1/\j1<=((j1+(v.length:Int))+1)/\((j1+(v.length:Int))+1)<=(u1.length:Int))/\
        oc u1 (0+toNat j1) (toNat ((j1+(v.length:Int))+1)-toNat j1:Nat) v WH λu3 r5=>
        u3.length=u1.length/\
        af r5
         (Qe (j1+(v.length:Int))/\
         Qe ((j1+(v.length:Int))+1)/\
         ((0:Int)<=j1/\j1<=((j1+(v.length:Int))+1)/\((j1+(v.length:Int))+1)<=(u1.length:Int))/\
         od u3 (0+toNat j1) (toNat ((j1+(v.length:Int))+1)-toNat j1:Nat) v λu4=>
         u4.length=u3.length/\
         Qd ((wrap .u64 (WH-1)),u4))
         (Qd (WH,u3)))
        λ⟨Yk,u2⟩=>
        ((0:Int)<=j1/\j1<(q.length:Int))/\
        Qe (j1-1)/\
        Qc ((j1-1),u2,(Qt q j1 (wrap .u32 Yk))))
      (bO q λq1=>
      jw u1 n λr6=>
      bO r6 λr7=>
      Q q1 r7 none))))
def lW(a b:List Int)(Q:List Int->Prop):Prop:=
 bO a λa1=>
 bO b λb1=>
 aO (σ:=(List Int)×(List Int)) (a1,b1) λ⟨a2,b2⟩ Qc=>
  af (decide (0<(b2.length:Int)))
   (jl a2 b2 λ_ r1 _=>
   Qc (b2,r1))
   (Q a2)
def fr(a b:List Int)(Q:List Int->Prop):Prop:=
 Qe ((a.length:Int)+(b.length:Int))/\
 jo 4 ((a.length:Int)+(b.length:Int)) ((a.length:Int)+(b.length:Int))/\
 aO (σ:=Int×(List Int)) (0,(bA ((a.length:Int)+(b.length:Int)) 0)) λ⟨x,out⟩ Qc=>
  af (decide (x<(a.length:Int)))
   (((0:Int)<=x/\x<(a.length:Int))/\
   aO (σ:=Int×Int×(List Int)) (0,0,out) λ⟨carry,x1,Re⟩ Qd=>
    af (decide (x1<(b.length:Int)))
     (((0:Int)<=x1/\x1<(b.length:Int))/\
     Qe (x+x1)/\
     ((0:Int)<=(x+x1)/\(x+x1)<(Re.length:Int))/\
     kf (wrap .u64 (carry+(wrap .u64 ((wrap .u64 ((wrap .u64 (P9 a x))*(wrap .u64 (P9 b x1))))+(wrap .u64 (P9 Re (x+x1))))))) λRk=>
     Qe (x+x1)/\
     ((0:Int)<=(x+x1)/\(x+x1)<(Re.length:Int))/\
     Qe (x1+1)/\
     Qd ((Rk/2^(toNat 32)),(x1+1),(Qt Re (x+x1) (wrap .u32 Rk))))
     (Qe (x+(b.length:Int))/\
     ((0:Int)<=(x+(b.length:Int))/\(x+(b.length:Int))<(Re.length:Int))/\
     Qe (x+1)/\
     Qc ((x+1),(Qt Re (x+(b.length:Int)) (wrap .u32 carry)))))
   (bO out λr=>
   Q r)
def md(a b:List Int)(Q:List Int->Prop):Prop:=
 Qe ((max (a.length:Int) (b.length:Int))+1)/\
 jo 4 ((max (a.length:Int) (b.length:Int))+1) ((max (a.length:Int) (b.length:Int))+1)/\
 aO (σ:=Int×Int×(List Int)) (0,0,(bA ((max (a.length:Int) (b.length:Int))+1) 0)) λ⟨carry,x,out⟩ Qc=>
  af (decide (x<((toNat ((max (a.length:Int) (b.length:Int))+1)):Int)))
   (da a x λr=>
   da b x λr1=>
   kf (wrap .u64 (carry+(wrap .u64 (r+r1)))) λRk=>
   ((0:Int)<=x/\x<(out.length:Int))/\
   Qe (x+1)/\
   Qc ((Rk/2^(toNat 32)),(x+1),(Qt out x (wrap .u32 Rk))))
   (bO out λr2=>
   Q r2)
def lV(a b:List Int)(Q:List Int->Option Int->Prop):Prop:=
 ft a b λr=>
 af (decide (r<0))
  (Q [] (some 3))
  (jo 4 (a.length:Int) (a.length:Int)/\
  aO (σ:=Int×Int×(List Int)) (0,0,(bA (a.length:Int) 0)) λ⟨borrow,x,out⟩ Qc=>
   af (decide (x<((toNat (a.length:Int)):Int)))
    (da a x λr1=>
    da b x λr2=>
    kf (wrap .u64 ((wrap .u64 (r1-r2))-borrow)) λd=>
    ((0:Int)<=x/\x<(out.length:Int))/\
    Qe (x+1)/\
    Qc ((d/2^(toNat 63)),(x+1),(Qt out x (wrap .u32 d))))
    (bO out λr3=>
    Q r3 none))
def bw(a b:List Int)(Q:Bool->Prop):Prop:=
 af ((a.length:Int) != (b.length:Int))
  (Q false)
  (aO (σ:=Int) 0 λx Qc=>
   af (decide (x<(a.length:Int)))
    (((0:Int)<=x/\x<(a.length:Int))/\
    ((0:Int)<=x/\x<(b.length:Int))/\
    af ((P9 a x) != (P9 b x))
     (Q false)
     (Qe (x+1)/\
     Qc (x+1)))
    (Q true))
def dc(neg:Bool)(num den:List Int)(Q:QB->Prop):Prop:=
 oe num λr=>
 af (r==0)
  (Q (⟨false,[],[]⟩:QB))
  (lW num den λg2=>
  jl num g2 λr1 _ _=>
  jl den g2 λr4 _ _=>
  Q (⟨neg,r1,r4⟩:QB))
def mL(n:Int)(Q:List Int->Prop):Prop:=
 af (n==(-9223372036854775808))
  (Q [0,2147483648])
  (Qe (-n)/\
  nt (max n (-n)) λr=>
  Q r)
def kh(Q:List Int->Prop):Prop:=Q [1]
def jh(n:Int)(Q:QB->Prop):Prop:=
 mL n λr=>
 kh λr1=>
 dc (decide (n<0)) r r1 λr2=>
 Q r2
def cS(err:Option Int)(code:Int)(Q:Bool->Prop):Prop:=
 af (isSome err)
  (Q ((getD err 0)==code))
  (Q false)
def iR(a:List Int)(Q:Bool->Prop):Prop:=
 af (decide (0<(a.length:Int)))
  (Qe ((a.length:Int)-1)/\
  ((0:Int)<=((a.length:Int)-1)/\((a.length:Int)-1)<(a.length:Int))/\
  Q ((P9 a ((a.length:Int)-1)) != 0))
  (Q false)
def lr(a:QB)(Q:Bool->Prop):Prop:=bV (α:=Bool) (λQc=>
  af ((a.J.length:Int)==0)
   (Qc ((a.L.length:Int)==0))
   (Qc false))
  λx=>
  af x
   (Q (!a.X))
   (iR a.J λr=>
   af r
    (iR a.L λr1=>
    af r1
     (lW a.J a.L λr2=>
     kh λr3=>
     ft r2 r3 λr4=>
     Q (r4==0))
     (Q false))
    (Q false))
def dm(a:QB)(Q:Bool->List Int->List Int->Prop):Prop:=bV (α:=Bool) (λQc=>
  lr a λr1=>
  af (!r1)
   (Qc true)
   (Qc ((a.J.length:Int)==0)))
  λx=>
  af x
   (kh λr=>
   Q false [] r)
   (Q a.X a.J a.L)
def gX(a:QB)(Q:Int->Prop):Prop:=
 dm a λr r1 _=>
 af ((r1.length:Int)==0)
  (Q 0)
  (af r
   (Q (-1))
   (Q 1))
def iA(a b:QB)(Q:QB->Option Int->Prop):Prop:=
 dm a λr r1 r2=>
 dm b λr3 r4 r5=>
 af ((r4.length:Int)==0)
  (Q (⟨false,[],[]⟩:QB) (some 8))
  (fr r1 r5 λr6=>
  fr r2 r4 λr7=>
  dc (r != r3) r6 r7 λr8=>
  Q r8 none)
def fD(a b:QB)(Q:QB->Prop):Prop:=
 dm a λr r1 r2=>
 dm b λr3 r4 r5=>
 fr r1 r5 λp=>
 fr r4 r2 λq=>
 fr r2 r5 λden=>
 af (r==r3)
  (md p q λr6=>
  dc r r6 den λr7=>
  Q r7)
  (ft p q λr8=>
  af (decide (0<=r8))
   (lV p q λr9 _=>
   dc r r9 den λXf=>
   Q Xf)
   (lV q p λXH _=>
   dc r3 XH den λXe=>
   Q Xe))
def nV(a:QB)(Q:QB->Prop):Prop:=
 dm a λr r1 r2=>
 dc (!r) r1 r2 λr3=>
 Q r3
def nU(a b:QB)(Q:QB->Prop):Prop:=
 my (nV b) λr=>
 my (fD a r) λr1=>
 Q r1
def iB(a b:QB)(Q:Int->Prop):Prop:=
 nU a b λr=>
 gX r λr1=>
 Q r1
def jb(kind n:Int)(Q:Bool->Prop):Prop:=
 af (kind==0)
  (Q (n==0))
  (af (kind==1)
   (Q (n==1))
   (af (decide (1<=n))
    (Q (decide (n<=16)))
    (Q false)))
def ja(f:GFormula)(i:Int)(Q:Option Int->Prop):Prop:=
 ((0:Int)<=i/\i<(f.N.length:Int))/\
 bV (α:=Bool) (λRo=>
  af (decide ((P9 f.N i).U<0))
   (Ro true)
   (Ro (decide (5<(P9 f.N i).U))))
  λx=>
  af x
   (Q (some 7))
   (jb ((P9 f.N i).U) (((P9 f.N i).Z).length:Int) λr=>
   af (!r)
    (Q (some 11))
    (aO (σ:=Int) 0 λx1 Qc=>
     af (decide (x1<(((P9 f.N i).Z).length:Int)))
      (((0:Int)<=x1/\x1<(((P9 f.N i).Z).length:Int))/\
      bV (α:=Bool) (λQd=>
       af (decide ((P9 ((P9 f.N i).Z) x1)<0))
        (Qd true)
        (Qe (f.Y+i)/\
        Qd (decide ((f.Y+i)<=(P9 ((P9 f.N i).Z) x1)))))
       λx2=>
       af x2
        (Q (some 10))
        (Qe (x1+1)/\
        Qc (x1+1)))
      (af ((P9 f.N i).U==0)
       (bV (α:=Bool) (λnext3=>
        af ((P9 f.N i).K != 0)
         (next3 ((P9 f.N i).K != 1))
         (next3 false))
        λx3=>
        af x3
         (Q (some 3))
         (Q none))
       (af ((P9 f.N i).U==4)
        (bV (α:=Bool) (λQD=>
         af (decide ((P9 f.N i).K<1))
          (QD true)
          (QD (decide ((((P9 f.N i).Z).length:Int)<(P9 f.N i).K))))
         λx4=>
         af x4
          (Q (some 3))
          (Q none))
        (af ((P9 f.N i).K != 0)
         (Q (some 2))
         (Q none))))))
def mS(f:GFormula)(arg:Int)(Q:Bool->Prop):Prop:=
 af (decide (0<=f.Y))
  (af (decide (0<=arg))
   (af (decide (arg<f.Y))
    (Q true)
    (Qe (arg-f.Y)/\
    Q (decide ((arg-f.Y)<(f.N.length:Int)))))
   (Q false))
  (Q false)
def dT(f:GFormula)(Q:Option Int->Prop):Prop:=bV (α:=Bool) (λQd=>
  af (decide (f.Y<0))
   (Qd true)
   (Qd (decide (24<f.Y))))
  λx=>
  af x
   (Q (some 3))
   (af (decide (128<(f.N.length:Int)))
    (Q (some 4))
    (aO (σ:=Int) 0 λx1 Qc=>
     af (decide (x1<(f.N.length:Int)))
      (ja f x1 λe=>
      af (isSome e)
       (Q e)
       (Qe (x1+1)/\
       Qc (x1+1)))
      (mS f f.A λr=>
      af (!r)
       (Q (some 10))
       (Q none))))
def ia(f:GFormula)(Q:List Bool->Prop):Prop:=
 Qe (f.Y+(f.N.length:Int))/\
 jo 1 (f.Y+(f.N.length:Int)) (f.Y+(f.N.length:Int))/\
 ((0:Int)<=f.A/\f.A<((toNat (f.Y+(f.N.length:Int))):Int))/\
 Qe ((f.N.length:Int)-1)/\
 aO (σ:=Int×(List Bool)) (((f.N.length:Int)-1),(Qt (bA (f.Y+(f.N.length:Int)) false) f.A true)) λ⟨i,mark⟩ Qc=>
  af (decide (0<=i))
   (Qe (f.Y+i)/\
   ((0:Int)<=(f.Y+i)/\(f.Y+i)<(mark.length:Int))/\
   af (P9 mark (f.Y+i))
    (((0:Int)<=i/\i<(f.N.length:Int))/\
    aO (σ:=Int×(List Bool)) (0,mark) λ⟨x,Wz⟩ Qd=>
     af (decide (x<(((P9 f.N i).Z).length:Int)))
      (((0:Int)<=x/\x<(((P9 f.N i).Z).length:Int))/\
      ((0:Int)<=(P9 ((P9 f.N i).Z) x)/\(P9 ((P9 f.N i).Z) x)<(Wz.length:Int))/\
      Qe (x+1)/\
      Qd ((x+1),(Qt Wz (P9 ((P9 f.N i).Z) x) true)))
      (Qe (i-1)/\
      Qc ((i-1),Wz)))
    (Qe (i-1)/\
    Qc ((i-1),mark)))
   (Q mark)
def gD(f:GFormula)(Q:GFormula->Option Int->Prop):Prop:=
 dT f λe=>
 af (isSome e)
  (Q (⟨0,[],0⟩:GFormula) e)
  (Qe (f.Y+(f.N.length:Int))/\
  jo 8 (f.Y+(f.N.length:Int)) (f.Y+(f.N.length:Int))/\
  aO (σ:=Int×(List Int)) (0,(bA (f.Y+(f.N.length:Int)) 0)) λ⟨x,to⟩ Qc=>
   af (decide (x<f.Y))
    (((0:Int)<=x/\x<(to.length:Int))/\
    Qe (x+1)/\
    Qc ((x+1),(Qt to x x)))
    (my (ia f) λr=>
    ((0:Int)<=f.Y/\f.Y<=(r.length:Int)/\(r.length:Int)<=(r.length:Int))/\
    aO (σ:=Int×(List Int)×(List QN)) (0,to,[]) λ⟨x1,Vv,x2⟩ Qd=>
     af (decide (x1<((fV r f.Y (r.length:Int)).length:Int)))
      (((0:Int)<=x1/\x1<((fV r f.Y (r.length:Int)).length:Int))/\
      af (!(P9 (fV r f.Y (r.length:Int)) x1))
       (Qe (x1+1)/\
       Qd ((x1+1),Vv,x2))
       (((0:Int)<=x1/\x1<(f.N.length:Int))/\
       aO (σ:=Int×(List Int)) (0,[]) λ⟨x3,x4⟩ next3=>
        af (decide (x3<(((P9 f.N x1).Z).length:Int)))
         (((0:Int)<=x3/\x3<(((P9 f.N x1).Z).length:Int))/\
         ((0:Int)<=(P9 ((P9 f.N x1).Z) x3)/\(P9 ((P9 f.N x1).Z) x3)<(Vv.length:Int))/\
         ((x4++[(P9 Vv (P9 ((P9 f.N x1).Z) x3))]).length*8<=140737488355328)/\
         Qe (x3+1)/\
         next3 ((x3+1),(x4++[(P9 Vv (P9 ((P9 f.N x1).Z) x3))])))
         (Qe (f.Y+x1)/\
         Qe (f.Y+(x2.length:Int))/\
         ((0:Int)<=(f.Y+x1)/\(f.Y+x1)<(Vv.length:Int))/\
         ((x2++[(⟨(P9 f.N x1).U,(P9 f.N x1).K,x4⟩:QN)]).length*40<=140737488355328)/\
         Qe (x1+1)/\
         Qd ((x1+1),(Qt Vv (f.Y+x1) (f.Y+(x2.length:Int))),(x2++[(⟨(P9 f.N x1).U,(P9 f.N x1).K,x4⟩:QN)])))))
      (((0:Int)<=f.A/\f.A<(Vv.length:Int))/\
      Q (⟨f.Y,x2,(P9 Vv f.A)⟩:GFormula) none)))
def qh(f:GFormula)(i:Int)(Q:Int->Prop):Prop:=
 ((0:Int)<=i/\i<(f.N.length:Int))/\
 bV (α:=Int×Int) (λQd=>
  af ((P9 f.N i).U==0)
   (Qd (0,0))
   (af ((P9 f.N i).U==1)
    (Qd (1,1))
    (af ((P9 f.N i).U==2)
     (Qd (1,16))
     (af ((P9 f.N i).U==3)
      (Qd (1,16))
      (af ((P9 f.N i).U==4)
       (Qd (1,16))
       (af ((P9 f.N i).U==5)
        (Qd (1,16))
        (Q 7)))))))
  λ⟨least,most⟩=>
  af (decide ((((P9 f.N i).Z).length:Int)<least))
   (Q 11)
   (af (decide (most<(((P9 f.N i).Z).length:Int)))
    (Q 11)
    (aO (σ:=Int) 0 λx Qc=>
     af (decide (x<(((P9 f.N i).Z).length:Int)))
      (((0:Int)<=x/\x<(((P9 f.N i).Z).length:Int))/\
      af (decide ((P9 ((P9 f.N i).Z) x)<0))
       (Q 10)
       (Qe (f.Y+i)/\
       af (decide ((f.Y+i)<=(P9 ((P9 f.N i).Z) x)))
        (Q 10)
        (Qe (x+1)/\
        Qc (x+1))))
      (af ((P9 f.N i).U==0)
       (af ((P9 f.N i).K != 0)
        (af ((P9 f.N i).K != 1)
         (Q 3)
         (Q 0))
        (Q 0))
       (af ((P9 f.N i).U==4)
        (af (decide ((P9 f.N i).K<1))
         (Q 3)
         (af (decide ((((P9 f.N i).Z).length:Int)<(P9 f.N i).K))
          (Q 3)
          (Q 0)))
        (af ((P9 f.N i).K != 0)
         (Q 2)
         (Q 0))))))
def pj(f:GFormula)(arg:Int)(Q:Bool->Prop):Prop:=
 af (decide (0<=f.Y))
  (af (decide (0<=arg))
   (af (decide (arg<f.Y))
    (Q true)
    (Qe (arg-f.Y)/\
    Q (decide ((arg-f.Y)<(f.N.length:Int)))))
   (Q false))
  (Q false)
def pk(f:GFormula)(Q:Int->Prop):Prop:=
 af (decide (f.Y<0))
  (Q 3)
  (af (decide (24<f.Y))
   (Q 3)
   (af (decide (128<(f.N.length:Int)))
    (Q 4)
    (aO (σ:=Int) 0 λx Qc=>
     af (decide (x<(f.N.length:Int)))
      (qh f x λe=>
      af (e != 0)
       (Q e)
       (Qe (x+1)/\
       Qc (x+1)))
      (pj f f.A λr=>
      af (!r)
       (Q 10)
       (Q 0)))))
def ot(f:GFormula)(Q:Int->Int->Option Int->Prop):Prop:=
 dT f λe=>
 af (isSome e)
  (Q 0 0 e)
  (my (ia f) λr=>
  ((0:Int)<=f.Y/\f.Y<=(r.length:Int)/\(r.length:Int)<=(r.length:Int))/\
  aO (σ:=Int×Int×Int) (0,0,0) λ⟨nodes,args,x⟩ Qc=>
   af (decide (x<((fV r f.Y (r.length:Int)).length:Int)))
    (((0:Int)<=x/\x<((fV r f.Y (r.length:Int)).length:Int))/\
    af (P9 (fV r f.Y (r.length:Int)) x)
     (Qe (nodes+1)/\
     ((0:Int)<=x/\x<(f.N.length:Int))/\
     Qe (args+(((P9 f.N x).Z).length:Int))/\
     kf (args+(((P9 f.N x).Z).length:Int)) λYp=>
     Qe (x+1)/\
     Qc ((nodes+1),Yp,(x+1)))
     (Qe (x+1)/\
     Qc (nodes,args,(x+1))))
    (Q nodes args none))
def kB(f:GFormula)(Q:Int->Option Int->Prop):Prop:=
 dT f λe=>
 af (isSome e)
  (Q 0 e)
  (my (ia f) λr=>
  ((0:Int)<=0/\0<=f.Y/\f.Y<=(r.length:Int))/\
  aO (σ:=Int×Int) (0,0) λ⟨out,x⟩ Qc=>
   af (decide (x<((fV r 0 f.Y).length:Int)))
    (((0:Int)<=x/\x<((fV r 0 f.Y).length:Int))/\
    af (P9 (fV r 0 f.Y) x)
     ((((0:Int)<=x/\x<=64)/\Qe (1*2^(toNat x)))/\
     Qe (x+1)/\
     Qc ((bits .or .i64 out (1*2^(toNat x))),(x+1)))
     (Qe (x+1)/\
     Qc (out,(x+1))))
    (Q out none))
def mQ(f:GFormula)(failed:Int)(Q:Option Int->Prop):Prop:=
 dT f λe=>
 af (isSome e)
  (Q e)
  (bV (α:=Bool) (λQc=>
   af (decide (failed<0))
    (Qc true)
    ((((0:Int)<=f.Y/\f.Y<=64)/\Qe (1*2^(toNat f.Y)))/\
    Qc (decide ((1*2^(toNat f.Y))<=failed))))
   λx=>
   af x
    (Q (some 3))
    (Q none))
def lG(f:GFormula)(failed:Int)(Q:List Bool->Prop):Prop:=
 Qe (f.Y+(f.N.length:Int))/\
 jo 1 f.Y (f.Y+(f.N.length:Int))/\
 aO (σ:=Int×(List Bool)) (0,(bA f.Y false)) λ⟨x,v⟩ Qc=>
  af (decide (x<((toNat f.Y):Int)))
   (((0:Int)<=x/\x<=64)/\
   ((0:Int)<=x/\x<(v.length:Int))/\
   Qe (x+1)/\
   Qc ((x+1),(Qt v x ((bits .and .i64 (failed/2^(toNat x)) 1)==1))))
   (aO (σ:=Int×(List Bool)) (0,v) λ⟨x1,v1⟩ Qd=>
    af (decide (x1<(f.N.length:Int)))
     (((0:Int)<=x1/\x1<(f.N.length:Int))/\
     aO (σ:=Int×Int) (0,0) λ⟨n,x2⟩ next3=>
      af (decide (x2<(((P9 f.N x1).Z).length:Int)))
       (((0:Int)<=x2/\x2<(((P9 f.N x1).Z).length:Int))/\
       ((0:Int)<=(P9 ((P9 f.N x1).Z) x2)/\(P9 ((P9 f.N x1).Z) x2)<(v1.length:Int))/\
       af (P9 v1 (P9 ((P9 f.N x1).Z) x2))
        (Qe (n+1)/\
        Qe (x2+1)/\
        next3 ((n+1),(x2+1)))
        (Qe (x2+1)/\
        next3 (n,(x2+1))))
       (bV (α:=Bool) (λQD=>
        af ((P9 f.N x1).U==0)
         (QD ((P9 f.N x1).K==1))
         (af ((P9 f.N x1).U==1)
          (QD (n==0))
          (af ((P9 f.N x1).U==2)
           (QD (n==(((P9 f.N x1).Z).length:Int)))
           (af ((P9 f.N x1).U==3)
            (QD (decide (0<n)))
            (af ((P9 f.N x1).U==4)
             (QD (decide ((P9 f.N x1).K<=n)))
             (af ((P9 f.N x1).U==5)
              (QD ((tmod n 2)==1))
              (QD false)))))))
        λis=>
        ((v1++[is]).length*1<=140737488355328)/\
        Qe (x1+1)/\
        Qd ((x1+1),(v1++[is]))))
     (Q v1))
def mR(f:GFormula)(failed:Int)(Q:Bool->Option Int->Prop):Prop:=
 mQ f failed λe=>
 af (isSome e)
  (Q false e)
  (my (lG f failed) λr=>
  ((0:Int)<=f.A/\f.A<(r.length:Int))/\
  Q (P9 r f.A) none)
def nP(s:Int)(Q:Int->Prop):Prop:=Q (bits .and .i64 s 16777215)
def qg(s:Int)(Q:Int->Prop):Prop:=
 nP s λr=>
 fM (wrap .u64 r) λr1=>
 Q r1
def qf(s:Int)(Q:Bool->Prop):Prop:=
 af (decide (0<=s))
  (Q (decide (s<=16777215)))
  (Q false)
def sX(s i:Int)(Q:Bool->Prop):Prop:=
 af (decide (0<=i))
  (af (decide (i<24))
   (((0:Int)<=i/\i<=64)/\
   Q ((bits .and .i64 (s/2^(toNat i)) 1)==1))
   (Q false))
  (Q false)
def pf(a b:Int)(Q:Bool->Prop):Prop:=
 nP a λr=>
 Q ((bits .andNot .i64 r b)==0)
def bR(s:List Grow)(Q:List Grow->Prop):Prop:=
 ∀Sf:Bool,(Sf=true->s=[])->
 af Sf
  (Q [])
  (((([]:List Grow)++s).length*24<=140737488355328)/\
  Q (([]:List Grow)++s))
def gr(x:List Int)(Q:List Int->Prop):Prop:=(∀v∈x,Y4 v)/\x.length<4611686018427387904/\∀y:List Int,y.Perm x->y.Pairwise (λa b=>¬rJ b a<0)->Q y
def bY(s:List Int)(Q:List Int->Prop):Prop:=
 ∀Sf:Bool,(Sf=true->s=[])->
 af Sf
  (Q [])
  (((([]:List Int)++s).length*8<=140737488355328)/\
  Q (([]:List Int)++s))
def eI(s:List Int)(Q:List Int->Prop):Prop:=
 af (decide ((s.length:Int)<2))
  (Q s)
  (aO (σ:=Int) 1 λk1 Qc=>
   af (decide (k1<(s.length:Int)))
    (((0:Int)<=k1/\k1<(s.length:Int))/\
    Qe (k1-1)/\
    ((0:Int)<=(k1-1)/\(k1-1)<(s.length:Int))/\
    af ((P9 s k1)==(P9 s (k1-1)))
     (((0:Int)<=k1/\k1<=(s.length:Int)/\(s.length:Int)<=(s.length:Int))/\
     aO (σ:=Int×Int×(List Int)) (k1,1,s) λ⟨k2,Vg,T1⟩ Qd=>
      af (decide (Vg<((toNat (s.length:Int)-toNat k1:Nat):Int)))
       (((0:Int)<=Vg/\Vg<((toNat (s.length:Int)-toNat k1:Nat):Int))/\
       (toNat (((0+toNat k1):Int)+Vg))<T1.length/\
       Qe (Vg-1)/\
       ((0:Int)<=(Vg-1)/\(Vg-1)<((toNat (s.length:Int)-toNat k1:Nat):Int))/\
       (toNat (((0+toNat k1):Int)+(Vg-1)))<T1.length/\
       af ((P9 T1 (((0+toNat k1):Int)+Vg)) != (P9 T1 (((0+toNat k1):Int)+(Vg-1))))
        (((0:Int)<=Vg/\Vg<((toNat (s.length:Int)-toNat k1:Nat):Int))/\
        (toNat (((0+toNat k1):Int)+Vg))<T1.length/\
        ((0:Int)<=k2/\k2<(T1.length:Int))/\
        Qe (k2+1)/\
        Qe (Vg+1)/\
        Qd ((k2+1),(Vg+1),(Qt T1 k2 (P9 T1 (((0+toNat k1):Int)+Vg)))))
        (Qe (Vg+1)/\
        Qd (k2,(Vg+1),T1)))
       (((0:Int)<=k2/\k2<=(T1.length:Int)/\(T1.length:Int)<=(T1.length:Int))/\
       ((0:Int)<=0/\0<=k2/\k2<=(T1.length:Int))/\
       Q (List.take (toNat k2) (List.take (0+toNat k2) T1))))
     (Qe (k1+1)/\
     Qc (k1+1)))
    (Q s))
def fP(slices:List (List Int))(Q:List Int->Prop):Prop:=aO (σ:=Int×Int) (0,0) λ⟨size,x⟩ Qc=>
  af (decide (x<(slices.length:Int)))
   (((0:Int)<=x/\x<(slices.length:Int))/\
   Qe (size+((P9 slices x).length:Int))/\
   af (decide ((size+((P9 slices x).length:Int))<0))
    (False)
    (Qe (x+1)/\
    Qc ((size+((P9 slices x).length:Int)),(x+1))))
   (((0:Int)<=size/\size*8<=140737488355328)/\
   aO (σ:=Int×(List Int)) (0,([]:List Int)) λ⟨x1,RZ⟩ Qd=>
    af (decide (x1<(slices.length:Int)))
     (((0:Int)<=x1/\x1<(slices.length:Int))/\
     ((RZ++(P9 slices x1)).length*8<=140737488355328)/\
     Qe (x1+1)/\
     Qd ((x1+1),(RZ++(P9 slices x1))))
     (Q RZ))
def e_(XD T1:List P')(Q:Bool->Prop):Prop:=
 af ((XD.length:Int) != (T1.length:Int))
  (Q false)
  (aO (σ:=Int) 0 λx Qc=>
   af (decide (x<(XD.length:Int)))
    (((0:Int)<=x/\x<(XD.length:Int))/\
    ((0:Int)<=x/\x<(T1.length:Int))/\
    af (!decide ([(P9 XD x).T,(P9 XD x).F,(P9 XD x).D]=[(P9 T1 x).T,(P9 T1 x).F,(P9 T1 x).D]))
     (Q false)
     (Qe (x+1)/\
     Qc (x+1)))
    (Q true))
def ke(x:List Int)(Q:List Int->Prop):Prop:=(∀v∈x,Y4 v)/\x.length<4611686018427387904/\∀y:List Int,y.Perm x->y.Pairwise (λa b=>¬rJ b a<0)->Q y
def fW(x:List Q3)(Q:List Q3->Prop):Prop:=(∀v∈x,okC v)/\x.length<4611686018427387904/\∀y:List Q3,y.Perm x->y.Pairwise (λa b=>¬uz b a<0)->Q y
def iH(all:List (List Int))(Q:Option Int->Prop):Prop:=aO (σ:=Int) 0 λx Qc=>
  af (decide (x<(all.length:Int)))
   (((0:Int)<=x/\x<(all.length:Int))/\
   af (decide (1024<((P9 all x).length:Int)))
    (Q (some 4))
    (aO (σ:=Int) 0 λx1 Qd=>
     af (decide (x1<((P9 all x).length:Int)))
      (((0:Int)<=x1/\x1<((P9 all x).length:Int))/\
      qf (P9 (P9 all x) x1) λr=>
      af (!r)
       (Q (some 3))
       (Qe (x1+1)/\
       Qd (x1+1)))
      (Qe (x+1)/\
      Qc (x+1))))
   (Q none)
def mU(l:List Int)(Q:List Int->Prop):Prop:=
 bY l λout=>
 gr out λRe=>
 Re.length=out.length/\
 eI Re λUW=>
 Q UW
def lf(t1 u:Int)(Q:Bool->Prop):Prop:=
 pf t1 u λr=>
 Q r
def cH(s:List Int)(u:Int)(Q:Int->Prop):Prop:=aO (σ:=Int) 0 λx Qc=>
  af (decide (x<(s.length:Int)))
   (((0:Int)<=x/\x<(s.length:Int))/\
   lf (P9 s x) u λr=>
   af r
    (Q x)
    (Qe (x+1)/\
    Qc (x+1)))
   (Q (-1))
def c_(s:List Int)(u:Int)(Q:Bool->Prop):Prop:=
 cH s u λr=>
 Q (decide (0<=r))
def ep(l:List Int)(Q:List Int->Prop):Prop:=
 mU l λr=>
 aO (σ:=Int×(List Int)) (0,[]) λ⟨x,out⟩ Qc=>
  af (decide (x<(r.length:Int)))
   (((0:Int)<=x/\x<(r.length:Int))/\
   c_ out (P9 r x) λr1=>
   af (!r1)
    (((out++[(P9 r x)]).length*8<=140737488355328)/\
    Qe (x+1)/\
    Qc ((x+1),(out++[(P9 r x)])))
    (Qe (x+1)/\
    Qc ((x+1),out)))
   (Q out)
def kC(l:List Int)(Q:List Int->Option Int->Prop):Prop:=
 af (decide (1024<(l.length:Int)))
  (Q [] (some 4))
  (Q l none)
def cR(a b:List Int)(Q:List Int->Option Int->Prop):Prop:=
 iH [a,b] λe=>
 af (isSome e)
  (Q [] e)
  (ep a λa1=>
  ep b λb1=>
  aO (σ:=Int×(Qa Bool)×(List Int)) (0,(de:Qa Bool),[]) λ⟨x,x1,Us⟩ Qc=>
   af (decide (x<(a1.length:Int)))
    (((0:Int)<=x/\x<(a1.length:Int))/\
    aO (σ:=Int×(Qa Bool)×(List Int)) (0,x1,Us) λ⟨x2,x3,S_⟩ Qd=>
     af (decide (x2<(b1.length:Int)))
      (((0:Int)<=x2/\x2<(b1.length:Int))/\
      af (!(getD (bB x3 [(bits .or .i64 (P9 a1 x) (P9 b1 x2))]) false))
       (((S_++[(bits .or .i64 (P9 a1 x) (P9 b1 x2))]).length*8<=140737488355328)/\
       Qe (x2+1)/\
       Qd ((x2+1),(QL x3 [(bits .or .i64 (P9 a1 x) (P9 b1 x2))] true),(S_++[(bits .or .i64 (P9 a1 x) (P9 b1 x2))])))
       (Qe (x2+1)/\
       Qd ((x2+1),x3,S_)))
      (Qe (x+1)/\
      Qc ((x+1),x3,S_)))
    (ep Us λr=>
    kC r λr1 r2=>
    Q r1 r2))
def gb(a b:List Int)(Q:List Int->Option Int->Prop):Prop:=
 iH [a,b] λe=>
 af (isSome e)
  (Q [] e)
  (fP [a,b] λr=>
  ep r λr1=>
  kC r1 λr2 r3=>
  Q r2 r3)
def lK(l:List Int)(Q:List Int->Option Int->Prop):Prop:=
 iH [l] λe=>
 af (isSome e)
  (Q [] e)
  (ep l λr=>
  Q r none)
def gZ(n:Int)(Q:List Int->Prop):Prop:=
 jo 8 n n/\
 aO (σ:=Int×(List Int)) (0,(bA n 0)) λ⟨x,out⟩ Qc=>
  af (decide (x<((toNat n):Int)))
   (((0:Int)<=x/\x<(out.length:Int))/\
   Qe (x+1)/\
   Qc ((x+1),(Qt out x x)))
   (Q out)
def ik(a b:Int)(u:List QB)(Q:Int->Prop):Prop:=
 ((0:Int)<=b/\b<(u.length:Int))/\
 ((0:Int)<=a/\a<(u.length:Int))/\
 my (iB (P9 u b) (P9 u a)) λr=>
 Q r
def cV(a b:Int)(data:List Int)(u:List QB)(Q:List Int->Prop):Prop:=
 Qe (a+1)/\
 aO (σ:=Int×(List Int)) ((a+1),data) λ⟨i,QA⟩ Qc=>
  af (decide (i<b))
   (aO (σ:=Int×(List Int)) (i,QA) λ⟨j,Qx⟩ Qd=>
    af (decide (a<j))
     (((0:Int)<=j/\j<(Qx.length:Int))/\
     Qe (j-1)/\
     ((0:Int)<=(j-1)/\(j-1)<(Qx.length:Int))/\
     ∃r,(ik (P9 Qx j) (P9 Qx (j-1)) u λy1=>y1=r)/\
     af (decide (r<0))
      (Qe (j-1)/\
      Qe (j-1)/\
      ((0:Int)<=(j-1)/\(j-1)<(Qx.length:Int))/\
      ((0:Int)<=j/\j<(Qx.length:Int))/\
      ((0:Int)<=j/\j<(Qx.length:Int))/\
      ((0:Int)<=(j-1)/\(j-1)<(Qx.length:Int))/\
      Qe (j-1)/\
      Qd ((j-1),(Qt (Qt Qx j (P9 Qx (j-1))) (j-1) (P9 Qx j))))
      (Qe (i+1)/\
      Qc ((i+1),Qx)))
     (Qe (i+1)/\
     Qc ((i+1),Qx)))
   (Q QA)
def gK(n:Int)(data:List Int)(u:List QB)(Q:List Int->Prop):Prop:=aO (σ:=Int×Int×(List Int)) (0,20,data) λ⟨a,b,QA⟩ Qc=>
  af (decide (b<=n))
   (cV a b QA u λQx=>
   Qx.length=QA.length/\
   Qe (b+20)/\
   Qc (b,(b+20),Qx))
   (cV a n QA u λRc=>
   Rc.length=QA.length/\
   aO (σ:=Int) 20 λQi Qd=>
    af (decide (Qi<n))
     (Qe (2*Qi)/\
     aO (σ:=Unit) () λ_ _=>
      af (decide ((2*Qi)<=n))
       (Qe (0+Qi)/\
       False)
       (Qe (0+Qi)/\
       af (decide ((0+Qi)<n))
        (False)
        (Qe (Qi*2)/\
        Qd (Qi*2))))
     (Q Rc))
def cW(x:List Int)(u:List QB)(Q:List Int->Prop):Prop:=
 gK (x.length:Int) x u λx1=>
 x1.length=x.length/\
 Q x1
def ly(f:GFormula)(Q:List Int->Option Int->Prop):Prop:=
 dT f λerr=>
 af (isSome err)
  (Q [] err)
  (Qe (f.Y+(f.N.length:Int))/\
  jo 56 (f.Y+(f.N.length:Int)) (f.Y+(f.N.length:Int))/\
  my (jh 1) λr=>
  ((0:Int)<=f.A/\f.A<((toNat (f.Y+(f.N.length:Int))):Int))/\
  O9 (σ:=(List QB)) f.N (Qt (bA (f.Y+(f.N.length:Int)) (⟨false,[],[]⟩:QB)) f.A r) (λi x1 x Qc=>
    Qe (f.Y+i)/\
    ((0:Int)<=(f.Y+i)/\(f.Y+i)<(x.length:Int))/\
    gX (P9 x (f.Y+i)) λr1=>
    af (r1==0)
     (Qc x)
     (af ((x1.Z.length:Int)==0)
      (Qc x)
      (my (jh (x1.Z.length:Int)) λr2=>
      Dl (iA (P9 x (f.Y+i)) r2) λr3 r4=>
      af (isSome r4)
       (False)
       (aO (σ:=Int×(List QB)) (0,x) λ⟨x2,x3⟩ Qd=>
        af (decide (x2<(x1.Z.length:Int)))
         (((0:Int)<=x2/\x2<(x1.Z.length:Int))/\
         ((0:Int)<=(P9 x1.Z x2)/\(P9 x1.Z x2)<(x3.length:Int))/\
         my (fD (P9 x3 (P9 x1.Z x2)) r3) λr5=>
         ((0:Int)<=(P9 x1.Z x2)/\(P9 x1.Z x2)<(x3.length:Int))/\
         Qe (x2+1)/\
         Qd ((x2+1),(Qt x3 (P9 x1.Z x2) r5)))
         (Qc x3)))))
   λx4=>
   gZ f.Y λout=>
   cW out x4 λRe=>
   Re.length=out.length/\
   Q Re none)
def ji(o:List Int)(vars:Int)(Q:Option Int->Prop):Prop:=bV (α:=Bool) (λnext3=>
  af (decide (vars<0))
   (next3 true)
   (next3 (decide (24<vars))))
  λx=>
  af x
   (Q (some 3))
   (af ((o.length:Int) != vars)
    (Q (some 11))
    (jo 1 vars vars/\
    aO (σ:=Int×(List Bool)) (0,(bA vars false)) λ⟨x1,seen⟩ Qc=>
     af (decide (x1<(o.length:Int)))
      (((0:Int)<=x1/\x1<(o.length:Int))/\
      bV (α:=Bool) (λQd=>
       af (decide ((P9 o x1)<0))
        (Qd true)
        (Qd (decide (vars<=(P9 o x1)))))
       λx2=>
       af x2
        (Q (some 3))
        (((0:Int)<=(P9 o x1)/\(P9 o x1)<(seen.length:Int))/\
        af (P9 seen (P9 o x1))
         (Q (some 6))
         (((0:Int)<=(P9 o x1)/\(P9 o x1)<(seen.length:Int))/\
         Qe (x1+1)/\
         Qc ((x1+1),(Qt seen (P9 o x1) true)))))
      (Q none)))
def nX(o:List Int)(Q:List Int->Prop):Prop:=
 jo 8 (o.length:Int) (o.length:Int)/\
 aO (σ:=Int×(List Int)) (0,(bA (o.length:Int) 0)) λ⟨x,out⟩ Qc=>
  af (decide (x<(o.length:Int)))
   (((0:Int)<=x/\x<(o.length:Int))/\
   ((0:Int)<=(P9 o x)/\(P9 o x)<(out.length:Int))/\
   Qe (x+1)/\
   Qc ((x+1),(Qt out (P9 o x) x)))
   (Q out)
def kn(o:List Int)(Q:List Int->Option Int->Prop):Prop:=
 ji o (o.length:Int) λerr=>
 af (isSome err)
  (Q [] err)
  (nX o λr=>
  Q r none)
def mM(vars:Int)(Q:List Int->Option Int->Prop):Prop:=bV (α:=Bool) (λQc=>
  af (decide (vars<0))
   (Qc true)
   (Qc (decide (24<vars))))
  λx=>
  af x
   (Q [] (some 3))
   (gZ vars λr=>
   Q r none)
def iJ(order:List Int)(Q:List Int->List Int->Qa Int->Qa Int->Prop):Prop:=
 (order.length*8<=140737488355328)/\
 jo 8 (order.length:Int) (order.length:Int)/\
 aO (σ:=Int×(List Int)) (0,(bA (order.length:Int) 0)) λ⟨x,x1⟩ Qc=>
  af (decide (x<(order.length:Int)))
   (((0:Int)<=x/\x<(order.length:Int))/\
   ((0:Int)<=(P9 order x)/\(P9 order x)<(x1.length:Int))/\
   Qe (x+1)/\
   Qc ((x+1),(Qt x1 (P9 order x) x)))
   (Q order x1 (de:Qa Int) (de:Qa Int))
def cN(v lo hi:Int)(_order _place:List Int)(nodes:List P')(unique _memo:Qa Int)(Q:List P'->Qa Int->Int->Prop):Prop:=
 af (lo==hi)
  (Q nodes unique lo)
  (af (!(isSome (bB unique [v,lo,hi])))
   (Qe (2+(nodes.length:Int))/\
   ((nodes++[(⟨v,lo,hi⟩:P')]).length*24<=140737488355328)/\
   Q (nodes++[(⟨v,lo,hi⟩:P')]) (QL unique [v,lo,hi] (2+(nodes.length:Int))) (2+(nodes.length:Int)))
   (Q nodes unique (getD (bB unique [v,lo,hi]) 0)))
def cq(i:Int)(order place:List Int)(nodes:List P')(unique memo:Qa Int)(Q:List P'->Qa Int->Int->Prop):Prop:=
 cN i 0 1 order place nodes unique memo λu u1 r=>
 Q u u1 r
def bo(r:Int)(order place:List Int)(nodes:List P')(_unique _memo:Qa Int)(Q:Int->Prop):Prop:=
 af (decide (r<2))
  (Q (order.length:Int))
  (Qe (r-2)/\
  ((0:Int)<=(r-2)/\(r-2)<(nodes.length:Int))/\
  ((0:Int)<=(P9 nodes (r-2)).T/\(P9 nodes (r-2)).T<(place.length:Int))/\
  Q (P9 place ((P9 nodes (r-2)).T)))
def bJ(r level:Int)(order place:List Int)(nodes:List P')(unique memo:Qa Int)(Q:Int->Int->Prop):Prop:=
 bo r order place nodes unique memo λr1=>
 af (r1 != level)
  (Q r r)
  (Qe (r-2)/\
  ((0:Int)<=(r-2)/\(r-2)<(nodes.length:Int))/\
  Q ((P9 nodes (r-2)).F) ((P9 nodes (r-2)).D))
def az:Nat->Int->Int->Int->(List Int)->(List Int)->(List P')->(Qa Int)->(Qa Int)->(List P'->Qa Int->Qa Int->Int->Prop)->Prop
 | 0,_,_,_,_,_,_,_,_,_=>False
 | fu+1,c,a,b,order,place,nodes,unique,memo,Q=>
  bV (α:=Unit) (λQc=>bV (α:=Bool) (λQd=>
    af (c==1)
     (Qd true)
     (Qd (a==b)))
    λx=>
    af x
     (Q nodes unique memo a)
     (af (c==0)
      (Q nodes unique memo b)
      (af (a==1)
       (af (b==0)
        (Q nodes unique memo c)
        (Qc ()))
       (Qc ()))))
   λ_=>
   af (isSome (bB memo [c,a,b]))
    (Q nodes unique memo (getD (bB memo [c,a,b]) 0))
    (bo c order place nodes unique memo λr=>
    bo a order place nodes unique memo λr1=>
    bo b order place nodes unique memo λr2=>
    bJ c (min (min r r1) r2) order place nodes unique memo λr3 r4=>
    bJ a (min (min r r1) r2) order place nodes unique memo λr5 r6=>
    bJ b (min (min r r1) r2) order place nodes unique memo λr7 r8=>
    az fu r3 r5 r7 order place nodes unique memo λu u1 u2 lo=>
    az fu r4 r6 r8 order place u u1 u2 λu3 u4 u5 hi=>
    ((0:Int)<=(min (min r r1) r2)/\(min (min r r1) r2)<(order.length:Int))/\
    cN (P9 order (min (min r r1) r2)) lo hi order place u3 u4 u5 λu6 u7 r9=>
    Q u6 u7 (QL u5 [c,a,b] r9) r9)
def eD(a:Int)(order place:List Int)(nodes:List P')(unique memo:Qa Int)(Q:List P'->Qa Int->Qa Int->Int->Prop):Prop:=
 ∃fu,az fu a 0 1 order place nodes unique memo λu u1 u2 r=>
 Q u u1 u2 r
def eF(a b:Int)(order place:List Int)(nodes:List P')(unique memo:Qa Int)(Q:List P'->Qa Int->Qa Int->Int->Prop):Prop:=
 ∃fu,az fu a b 0 order place nodes unique memo λu u1 u2 r=>
 Q u u1 u2 r
def eQ(a b:Int)(order place:List Int)(nodes:List P')(unique memo:Qa Int)(Q:List P'->Qa Int->Qa Int->Int->Prop):Prop:=
 ∃fu,az fu a 1 b order place nodes unique memo λu u1 u2 r=>
 Q u u1 u2 r
def eB(a b:Int)(order place:List Int)(nodes:List P')(unique memo:Qa Int)(Q:List P'->Qa Int->Qa Int->Int->Prop):Prop:=
 eD b order place nodes unique memo λu u1 u2 r=>
 ∃fu,az fu a r b order place u u1 u2 λu3 u4 u5 r1=>
 Q u3 u4 u5 r1
def aW:Nat->Int->Int->(Qa Bool)->(List Int)->(List Int)->(List P')->(Qa Int)->(Qa Int)->(Qa Bool->Prop)->Prop
 | 0,_,_,_,_,_,_,_,_,_=>False
 | fu+1,r,u,u1,order,place,nodes,unique,memo,Q=>
  af (decide (r<2))
   (Q u1)
   (af (getD (bB u1 [r]) false)
    (Q u1)
    (af (decide (u<((Qa.n u1:Nat):Int)))
     (Q u1)
     (Qe (r-2)/\
     ((0:Int)<=(r-2)/\(r-2)<(nodes.length:Int))/\
     ∃u2,(aW fu ((P9 nodes (r-2)).F) u (QL u1 [r] true) order place nodes unique memo λy1=>y1=u2)/\
     Qe (r-2)/\
     ((0:Int)<=(r-2)/\(r-2)<(nodes.length:Int))/\
     ∃u3,(aW fu ((P9 nodes (r-2)).D) u u2 order place nodes unique memo λy2=>y2=u3)/\
     Q u3)))
def bP(root most:Int)(order place:List Int)(nodes:List P')(unique memo:Qa Int)(Q:Bool->Prop):Prop:=
 ∃fu,aW fu root most (de:Qa Bool) order place nodes unique memo λu=>
 Q (decide (((Qa.n u:Nat):Int)<=most))
def be:Nat->Int->Int->(Qa Int)->(List Int)->(List P')->(List Int)->(List Int)->(List P')->(Qa Int)->(Qa Int)->(Qa Int->List P'->Int->Prop)->Prop
 | 0,_,_,_,_,_,_,_,_,_,_,_=>False
 | fu+1,r,V,u,M,N,order,place,nodes,unique,memo,Q=>
  af (isSome (bB u [r]))
   (Q u N (getD (bB u [r]) 0))
   (Qe (r-2)/\
   ((0:Int)<=(r-2)/\(r-2)<(nodes.length:Int))/\
   be fu ((P9 nodes (r-2)).F) V u M N order place nodes unique memo λu1 u2 lo=>
   be fu ((P9 nodes (r-2)).D) V u1 M u2 order place nodes unique memo λu3 u4 WD=>
   ((u4++[(⟨(P9 nodes (r-2)).T,lo,WD⟩:P')]).length*24<=140737488355328)/\
   Qe (1+((u4++[(⟨(P9 nodes (r-2)).T,lo,WD⟩:P')]).length:Int))/\
   Q (QL u3 [r] (1+((u4++[(⟨(P9 nodes (r-2)).T,lo,WD⟩:P')]).length:Int))) (u4++[(⟨(P9 nodes (r-2)).T,lo,WD⟩:P')]) (getD (bB (QL u3 [r] (1+((u4++[(⟨(P9 nodes (r-2)).T,lo,WD⟩:P')]).length:Int))) [r]) 0))
def dA(root:Int)(order place:List Int)(nodes:List P')(unique memo:Qa Int)(Q:Qs->Prop):Prop:=
 (order.length*8<=140737488355328)/\
 ∃fu,be fu root 0 (QL (QL (de:Qa Int) [0] 0) [1] 1) order ([]:List P') order place nodes unique memo λ_ u1 r=>
 Q (⟨order,u1,r⟩:Qs)
def dW(d:Qs)(order place:List Int)(nodes:List P')(unique memo:Qa Int)(Q:List P'->Qa Int->Qa Int->Int->Prop):Prop:=
 Qe (2+(d.N.length:Int))/\
 jo 8 (2+(d.N.length:Int)) (2+(d.N.length:Int))/\
 ((0:Int)<=1/\1<((toNat (2+(d.N.length:Int))):Int))/\
 aO (σ:=Int×(List Int)×(List P')×(Qa Int)×(Qa Int)) (0,(Qt (bA (2+(d.N.length:Int)) 0) 1 1),nodes,unique,memo) λ⟨x,refs,x1,x2,x3⟩ Qc=>
  af (decide (x<(d.N.length:Int)))
   (((0:Int)<=x/\x<(d.N.length:Int))/\
   Qe (2+x)/\
   ∃u u1 r,(cq ((P9 d.N x).T) order place x1 x2 x3 λy1 y2 y3=>y1=u/\y2=u1/\y3=r)/\
   ((0:Int)<=(P9 d.N x).D/\(P9 d.N x).D<(refs.length:Int))/\
   ((0:Int)<=(P9 d.N x).F/\(P9 d.N x).F<(refs.length:Int))/\
   ∃u2 u3 u4 r1,(∃fu,az fu r (P9 refs ((P9 d.N x).D)) (P9 refs ((P9 d.N x).F)) order place u u1 x3 λy4 y5 y6 y7=>y4=u2/\y5=u3/\y6=u4/\y7=r1)/\
   ((0:Int)<=(2+x)/\(2+x)<(refs.length:Int))/\
   Qe (x+1)/\
   Qc ((x+1),(Qt refs (2+x) r1),u2,u3,u4))
   (((0:Int)<=d.V/\d.V<(refs.length:Int))/\
   Q x1 x2 x3 (P9 refs d.V))
def dl(Q:Qa Int->Qa Int->Prop):Prop:=Q (de:Qa Int) (de:Qa Int)
def aY:Nat->Int->Int->Int->(Qa Int)->(List Int)->(List Int)->(List P')->(Qa Int)->(Qa Int)->(Qa Int->List P'->Qa Int->Qa Int->Int->Prop)->Prop
 | 0,_,_,_,_,_,_,_,_,_,_=>False
 | fu+1,r,u,u1,u2,order,place,nodes,unique,memo,Q=>
  ∃r1,(bo r order place nodes unique memo λy1=>y1=r1)/\
  ((0:Int)<=u/\u<(place.length:Int))/\
  af (decide ((P9 place u)<r1))
   (Q u2 nodes unique memo r)
   (af (isSome (bB u2 [r]))
    (Q u2 nodes unique memo (getD (bB u2 [r]) 0))
    (Qe (r-2)/\
    ((0:Int)<=(r-2)/\(r-2)<(nodes.length:Int))/\
    bV (α:=Int×(Qa Int)×(List P')×(Qa Int)×(Qa Int)) (λQc=>
     af ((P9 nodes (r-2)).T==u)
      (∃fu,az fu u1 ((P9 nodes (r-2)).D) ((P9 nodes (r-2)).F) order place nodes unique memo λu3 u4 u5 x5=>
      Qc (x5,u2,u3,u4,u5))
      (∃u6 u7 r2,(cq ((P9 nodes (r-2)).T) order place nodes unique memo λy2 y3 y4=>y2=u6/\y3=u7/\y4=r2)/\
      ∃u8 u9 UU Ut r3,(aY fu ((P9 nodes (r-2)).D) u u1 u2 order place u6 u7 memo λy5 y6 y7 y8 y9=>y5=u8/\y6=u9/\y7=UU/\y8=Ut/\y9=r3)/\
      ∃UL V4 Zx u15 r4,(aY fu ((P9 nodes (r-2)).F) u u1 u8 order place u9 UU Ut λy10 y11 y12 y13 y14=>y10=UL/\y11=V4/\y12=Zx/\y13=u15/\y14=r4)/\
      ∃u16 u17 u18 x6,(∃fu,az fu r2 r3 r4 order place V4 Zx u15 λy15 y16 y17 y18=>y15=u16/\y16=u17/\y17=u18/\y18=x6)/\
      Qc (x6,UL,u16,u17,u18)))
     λ⟨x,x1,x2,x3,x4⟩=>
     Q (QL x1 [r] x) x2 x3 x4 x))
def df(r event Ws:Int)(order place:List Int)(nodes:List P')(unique memo:Qa Int)(Q:List P'->Qa Int->Qa Int->Int->Prop):Prop:=
 ∃fu,aY fu r event Ws (de:Qa Int) order place nodes unique memo λ_ u1 u2 u3 r1=>
 Q u1 u2 u3 r1
def cX(r event:Int)(failed:Bool)(order place:List Int)(nodes:List P')(unique memo:Qa Int)(Q:List P'->Qa Int->Qa Int->Int->Prop):Prop:=
 af failed
  (df r event 1 order place nodes unique memo λu u1 u2 r1=>
  Q u u1 u2 r1)
  (df r event 0 order place nodes unique memo λu3 u4 u5 r2=>
  Q u3 u4 u5 r2)
def eM(r:Int)(nodes:List P')(_unique _memo:Qa Int)(Q:Bool->Prop):Prop:=aO (σ:=Int) r λr1 Qc=>
  af (decide (2<=r1))
   (Qe (r1-2)/\
   ((0:Int)<=(r1-2)/\(r1-2)<(nodes.length:Int))/\
   Qc ((P9 nodes (r1-2)).F))
   (Q (r1==1))
def cO(r:Int)(nodes:List P')(_unique _memo:Qa Int)(Q:Int->Prop):Prop:=
 af (decide (r<2))
  (Q 24)
  (Qe (r-2)/\
  ((0:Int)<=(r-2)/\(r-2)<(nodes.length:Int))/\
  Q ((P9 nodes (r-2)).T))
def dY(r event:Int)(nodes:List P')(unique memo:Qa Int)(Q:Int->Int->Prop):Prop:=
 cO r nodes unique memo λr1=>
 af (r1 != event)
  (Q r 0)
  (Qe (r-2)/\
  ((0:Int)<=(r-2)/\(r-2)<(nodes.length:Int))/\
  Q ((P9 nodes (r-2)).F) ((P9 nodes (r-2)).D))
def cA(v lo hi:Int)(nodes:List P')(unique _memo:Qa Int)(Q:List P'->Qa Int->Int->Prop):Prop:=
 af (hi==0)
  (Q nodes unique lo)
  (af (!(isSome (bB unique [v,lo,hi])))
   (Qe (2+(nodes.length:Int))/\
   ((nodes++[(⟨v,lo,hi⟩:P')]).length*24<=140737488355328)/\
   Q (nodes++[(⟨v,lo,hi⟩:P')]) (QL unique [v,lo,hi] (2+(nodes.length:Int))) (2+(nodes.length:Int)))
   (Q nodes unique (getD (bB unique [v,lo,hi]) 0)))
mutual
def cr:Nat->Int->Int->(List P')->(Qa Int)->(Qa Int)->(List P'->Qa Int->Qa Int->Int->Prop)->Prop
 | 0,_,_,_,_,_,_=>False
 | fu+1,u,u1,nodes,unique,memo,Q=>
  ∃r,(cO u nodes unique memo λy1=>y1=r)/\
  ∃r1,(cO u1 nodes unique memo λy2=>y2=r1)/\
  dY u (min r r1) nodes unique memo λr2 r3=>
  dY u1 (min r r1) nodes unique memo λr4 r5=>
  ∃u2 u3 u4 r6,(aP fu r2 r4 nodes unique memo λy3 y4 y5 y6=>y3=u2/\y4=u3/\y5=u4/\y6=r6)/\
  ∃u5 u6 u7 r7,(aP fu r3 r4 u2 u3 u4 λy7 y8 y9 y10=>y7=u5/\y8=u6/\y9=u7/\y10=r7)/\
  ∃u8 u9 UU r8,(aP fu r7 r5 u5 u6 u7 λy11 y12 y13 y14=>y11=u8/\y12=u9/\y13=UU/\y14=r8)/\
  ∃Ut UL r9,(cA (min r r1) r6 r8 u8 u9 UU λy15 y16 y17=>y15=Ut/\y16=UL/\y17=r9)/\
  Q Ut UL UU r9
def bD:Nat->Int->Int->Int->Int->Int->(List P')->(Qa Int)->(Qa Int)->(List P'->Qa Int->Qa Int->Int->Prop)->Prop
 | 0,_,_,_,_,_,_,_,_,_=>False
 | fu+1,op,a,b,u,u1,nodes,unique,memo,Q=>
  af (!(isSome (bB memo [op,a,b])))
   (cr fu u u1 nodes unique memo λu2 u3 u4 r=>
   Q u2 u3 (QL u4 [op,a,b] r) r)
   (Q nodes unique memo (getD (bB memo [op,a,b]) 0))
def aP:Nat->Int->Int->(List P')->(Qa Int)->(Qa Int)->(List P'->Qa Int->Qa Int->Int->Prop)->Prop
 | 0,_,_,_,_,_,_=>False
 | fu+1,a,b,nodes,unique,memo,Q=>
  bV (α:=Bool) (λQd=>
   af (a==0)
    (Qd true)
    (eM b nodes unique memo λr1=>
    Qd r1))
   λx=>
   af x
    (Q nodes unique memo 0)
    (bV (α:=Bool) (λQc=>
     af (b==0)
      (Qc true)
      (Qc (a==1)))
     λx1=>
     af x1
      (Q nodes unique memo a)
      (bD fu 119 a b a b nodes unique memo λu u1 u2 r=>
      Q u u1 u2 r))
end
def a_:Nat->Int->(Qa Int)->(List Int)->(List Int)->(List P')->(Qa Int)->(Qa Int)->(List P')->(Qa Int)->(Qa Int)->(Qa Int->List P'->Qa Int->Qa Int->Int->Prop)->Prop
 | 0,_,_,_,_,_,_,_,_,_,_,_=>False
 | fu+1,r,u,order,place,nodes,unique,memo,Ru,Ra,R8,Q=>
  af (!(isSome (bB u [r])))
   (Qe (r-2)/\
   ((0:Int)<=(r-2)/\(r-2)<(nodes.length:Int))/\
   a_ fu ((P9 nodes (r-2)).F) u order place nodes unique memo Ru Ra R8 λu1 u2 u3 u4 lo=>
   ∃u5 u6 u7 u8 r1,(a_ fu ((P9 nodes (r-2)).D) u1 order place nodes unique memo u2 u3 u4 λy1 y2 y3 y4 y5=>y1=u5/\y2=u6/\y3=u7/\y4=u8/\y5=r1)/\
   ∃u9 UU Ut r2,(∃fu,aP fu r1 lo u6 u7 u8 λy6 y7 y8 y9=>y6=u9/\y7=UU/\y8=Ut/\y9=r2)/\
   ∃UL V4 x,(cA ((P9 nodes (r-2)).T) lo r2 u9 UU Ut λy10 y11 y12=>y10=UL/\y11=V4/\y12=x)/\
   Q (QL u5 [r] x) UL V4 Ut x)
   (Q u Ru Ra R8 (getD (bB u [r]) 0))
def eu(r:Int)(nodes:List P')(unique memo:Qa Int)(order place:List Int)(Ru:List P')(Ra R8:Qa Int)(Q:List P'->Qa Int->Qa Int->Int->Prop):Prop:=
 ∃fu,a_ fu r (QL (QL (de:Qa Int) [0] 0) [1] 1) order place Ru Ra R8 nodes unique memo λ_ u1 u2 u3 r1=>
 Q u1 u2 u3 r1
def bi:Nat->Int->Int->(Qa Bool)->(List P')->(Qa Int)->(Qa Int)->(Qa Bool->Prop)->Prop
 | 0,_,_,_,_,_,_,_=>False
 | fu+1,r,u,u1,nodes,unique,memo,Q=>
  af (decide (r<2))
   (Q u1)
   (af (getD (bB u1 [r]) false)
    (Q u1)
    (af (decide (u<((Qa.n u1:Nat):Int)))
     (Q u1)
     (Qe (r-2)/\
     ((0:Int)<=(r-2)/\(r-2)<(nodes.length:Int))/\
     ∃u2,(bi fu ((P9 nodes (r-2)).F) u (QL u1 [r] true) nodes unique memo λy1=>y1=u2)/\
     Qe (r-2)/\
     ((0:Int)<=(r-2)/\(r-2)<(nodes.length:Int))/\
     ∃u3,(bi fu ((P9 nodes (r-2)).D) u u2 nodes unique memo λy2=>y2=u3)/\
     Q u3)))
def iW(root most:Int)(nodes:List P')(unique memo:Qa Int)(Q:Bool->Prop):Prop:=
 ∃fu,bi fu root most (de:Qa Bool) nodes unique memo λu=>
 Q (decide (((Qa.n u:Nat):Int)<=most))
def bv:Nat->Int->Int->(Qa Int)->(List P')->(List P')->(Qa Int)->(Qa Int)->(Qa Int->List P'->Int->Prop)->Prop
 | 0,_,_,_,_,_,_,_,_=>False
 | fu+1,r,V,u,N,nodes,unique,memo,Q=>
  af (isSome (bB u [r]))
   (Q u N (getD (bB u [r]) 0))
   (Qe (r-2)/\
   ((0:Int)<=(r-2)/\(r-2)<(nodes.length:Int))/\
   bv fu ((P9 nodes (r-2)).F) V u N nodes unique memo λu1 u2 lo=>
   bv fu ((P9 nodes (r-2)).D) V u1 u2 nodes unique memo λu3 u4 WD=>
   ((u4++[(⟨(P9 nodes (r-2)).T,lo,WD⟩:P')]).length*24<=140737488355328)/\
   Qe (1+((u4++[(⟨(P9 nodes (r-2)).T,lo,WD⟩:P')]).length:Int))/\
   Q (QL u3 [r] (1+((u4++[(⟨(P9 nodes (r-2)).T,lo,WD⟩:P')]).length:Int))) (u4++[(⟨(P9 nodes (r-2)).T,lo,WD⟩:P')]) (getD (bB (QL u3 [r] (1+((u4++[(⟨(P9 nodes (r-2)).T,lo,WD⟩:P')]).length:Int))) [r]) 0))
def dM(root:Int)(nodes:List P')(unique memo:Qa Int)(Q:Q4->Prop):Prop:=
 ∃fu,bv fu root 0 (QL (QL (de:Qa Int) [0] 0) [1] 1) ([]:List P') nodes unique memo λ_ u1 r=>
 Q (⟨u1,r⟩:Q4)
def dB(z1:Q4)(nodes:List P')(unique memo:Qa Int)(Q:List P'->Qa Int->Int->Prop):Prop:=
 Qe (2+(z1.N.length:Int))/\
 jo 8 (2+(z1.N.length:Int)) (2+(z1.N.length:Int))/\
 ((0:Int)<=1/\1<((toNat (2+(z1.N.length:Int))):Int))/\
 aO (σ:=Int×(List Int)×(List P')×(Qa Int)) (0,(Qt (bA (2+(z1.N.length:Int)) 0) 1 1),nodes,unique) λ⟨x,refs,x1,x2⟩ Qc=>
  af (decide (x<(z1.N.length:Int)))
   (((0:Int)<=x/\x<(z1.N.length:Int))/\
   Qe (2+x)/\
   ((0:Int)<=(P9 z1.N x).F/\(P9 z1.N x).F<(refs.length:Int))/\
   ((0:Int)<=(P9 z1.N x).D/\(P9 z1.N x).D<(refs.length:Int))/\
   ∃u u1 r,(cA ((P9 z1.N x).T) (P9 refs ((P9 z1.N x).F)) (P9 refs ((P9 z1.N x).D)) x1 x2 memo λy1 y2 y3=>y1=u/\y2=u1/\y3=r)/\
   ((0:Int)<=(2+x)/\(2+x)<(refs.length:Int))/\
   Qe (x+1)/\
   Qc ((x+1),(Qt refs (2+x) r),u,u1))
   (((0:Int)<=z1.V/\z1.V<(refs.length:Int))/\
   Q x1 x2 (P9 refs z1.V))
mutual
def cE:Nat->Int->(List P')->(Qa Int)->(Qa Int)->(Qa Int->Int->Prop)->Prop
 | 0,_,_,_,_,_=>False
 | fu+1,u,nodes,unique,memo,Q=>
  Qe (u-2)/\
  ((0:Int)<=(u-2)/\(u-2)<(nodes.length:Int))/\
  ∃u1 r,(bg fu ((P9 nodes (u-2)).F) nodes unique memo λy1 y2=>y1=u1/\y2=r)/\
  ∃u2 r1,(bg fu ((P9 nodes (u-2)).D) nodes unique u1 λy3 y4=>y3=u2/\y4=r1)/\
  Qe (r+r1)/\
  Q u2 (r+r1)
def bC:Nat->Int->Int->Int->Int->(List P')->(Qa Int)->(Qa Int)->(Qa Int->Int->Prop)->Prop
 | 0,_,_,_,_,_,_,_,_=>False
 | fu+1,op,a,b,u,nodes,unique,memo,Q=>
  af (!(isSome (bB memo [op,a,b])))
   (cE fu u nodes unique memo λu1 r=>
   Q (QL u1 [op,a,b] r) r)
   (Q memo (getD (bB memo [op,a,b]) 0))
def bg:Nat->Int->(List P')->(Qa Int)->(Qa Int)->(Qa Int->Int->Prop)->Prop
 | 0,_,_,_,_,_=>False
 | fu+1,a,nodes,unique,memo,Q=>
  af (decide (a<2))
   (Q memo a)
   (bC fu 99 a 0 a nodes unique memo λu r=>
   Q u r)
end
def oV(refs:List Int)(first:Int)(order place:List Int)(nodes:List P')(unique memo:Qa Int)(Q:List P'->Qa Int->Qa Int->Int->Prop):Prop:=aO (σ:=Int×Int×(List P')×(Qa Int)×(Qa Int)) (first,0,nodes,unique,memo) λ⟨Rs,x,x1,x2,x3⟩ Qc=>
  af (decide (x<(refs.length:Int)))
   (((0:Int)<=x/\x<(refs.length:Int))/\
   eF Rs (P9 refs x) order place x1 x2 x3 λu u1 u2 R6=>
   Qe (x+1)/\
   Qc (R6,(x+1),u,u1,u2))
   (Q x1 x2 x3 Rs)
def ov(refs:List Int)(first:Int)(order place:List Int)(nodes:List P')(unique memo:Qa Int)(Q:List P'->Qa Int->Qa Int->Int->Prop):Prop:=aO (σ:=Int×Int×(List P')×(Qa Int)×(Qa Int)) (first,0,nodes,unique,memo) λ⟨Rs,x,x1,x2,x3⟩ Qc=>
  af (decide (x<(refs.length:Int)))
   (((0:Int)<=x/\x<(refs.length:Int))/\
   eQ Rs (P9 refs x) order place x1 x2 x3 λu u1 u2 R6=>
   Qe (x+1)/\
   Qc (R6,(x+1),u,u1,u2))
   (Q x1 x2 x3 Rs)
def ou(refs:List Int)(first:Int)(order place:List Int)(nodes:List P')(unique memo:Qa Int)(Q:List P'->Qa Int->Qa Int->Int->Prop):Prop:=aO (σ:=Int×Int×(List P')×(Qa Int)×(Qa Int)) (first,0,nodes,unique,memo) λ⟨Rs,x,x1,x2,x3⟩ Qc=>
  af (decide (x<(refs.length:Int)))
   (((0:Int)<=x/\x<(refs.length:Int))/\
   eB Rs (P9 refs x) order place x1 x2 x3 λu u1 u2 R6=>
   Qe (x+1)/\
   Qc (R6,(x+1),u,u1,u2))
   (Q x1 x2 x3 Rs)
def kF(refs:List Int)(k6:Int)(order place:List Int)(nodes:List P')(unique memo:Qa Int)(Q:List P'->Qa Int->Qa Int->Int->Prop):Prop:=
 Qe (k6+1)/\
 jo 8 (k6+1) (k6+1)/\
 ((0:Int)<=0/\0<((toNat (k6+1)):Int))/\
 aO (σ:=Int×(List Int)×(List P')×(Qa Int)×(Qa Int)) (0,(Qt (bA (k6+1) 0) 0 1),nodes,unique,memo) λ⟨x,need,x1,x2,x3⟩ Qc=>
  af (decide (x<(refs.length:Int)))
   (((0:Int)<=x/\x<(refs.length:Int))/\
   aO (σ:=Int×(List Int)×(List P')×(Qa Int)×(Qa Int)) (k6,need,x1,x2,x3) λ⟨j,Rb,x4,x5,x6⟩ Qd=>
    af (decide (0<j))
     (Qe (j-1)/\
     ((0:Int)<=(j-1)/\(j-1)<(Rb.length:Int))/\
     ((0:Int)<=j/\j<(Rb.length:Int))/\
     ∃u u1 u2 r,(∃fu,az fu (P9 refs x) (P9 Rb (j-1)) (P9 Rb j) order place x4 x5 x6 λy1 y2 y3 y4=>y1=u/\y2=u1/\y3=u2/\y4=r)/\
     ((0:Int)<=j/\j<(Rb.length:Int))/\
     Qe (j-1)/\
     Qd ((j-1),(Qt Rb j r),u,u1,u2))
     (Qe (x+1)/\
     Qc ((x+1),Rb,x4,x5,x6)))
   (((0:Int)<=k6/\k6<(need.length:Int))/\
   Q x1 x2 x3 (P9 need k6))
def io(x:QN)(refs order place:List Int)(nodes:List P')(unique memo:Qa Int)(Q:List P'->Qa Int->Qa Int->Int->Prop):Prop:=
 af (x.U==0)
  (Q nodes unique memo x.K)
  (af (x.U==1)
   (((0:Int)<=0/\0<(refs.length:Int))/\
   eD (P9 refs 0) order place nodes unique memo λu u1 u2 r=>
   Q u u1 u2 r)
   (af (x.U==2)
    (oV refs 1 order place nodes unique memo λu3 u4 u5 r1=>
    Q u3 u4 u5 r1)
    (af (x.U==3)
     (ov refs 0 order place nodes unique memo λu6 u7 u8 r2=>
     Q u6 u7 u8 r2)
     (af (x.U==5)
      (ou refs 0 order place nodes unique memo λu9 UU Ut r3=>
      Q u9 UU Ut r3)
      (kF refs x.K order place nodes unique memo λUL V4 Zx r4=>
      Q UL V4 Zx r4)))))
def jz(f:GFormula)(o:List Int)(Q:Qs->Option Int->Prop):Prop:=
 ot f λr _ r2=>
 af (isSome r2)
  (Q (⟨[],[],0⟩:Qs) r2)
  (ji o f.Y λerr=>
  af (isSome err)
   (Q (⟨[],[],0⟩:Qs) err)
   (bV (α:=GFormula) (λQD=>
    af (decide (0<r))
     (gD f λr7 r8=>
     af (isSome r8)
      (Q (⟨[],[],0⟩:Qs) r8)
      (QD r7))
     (QD (⟨f.Y,[],f.A⟩:GFormula)))
    λx=>
    iJ o λorder place unique memo=>
    Qe (x.Y+(x.N.length:Int))/\
    jo 8 (x.Y+(x.N.length:Int)) (x.Y+(x.N.length:Int))/\
    aO (σ:=Int×(List Int)×(Qa Int)×(List P')) (0,(bA (x.Y+(x.N.length:Int)) 0),unique,[]) λ⟨x1,refs,x2,x3⟩ Qc=>
     af (decide (x1<x.Y))
      (cq x1 order place x3 x2 memo λu u1 r3=>
      ((0:Int)<=x1/\x1<(refs.length:Int))/\
      Qe (x1+1)/\
      Qc ((x1+1),(Qt refs x1 r3),u1,u))
      (aO (σ:=Int×(List Int)×(Qa Int)×(Qa Int)×(List P')) (0,refs,x2,memo,x3) λ⟨x4,QV,x5,x6,x7⟩ Qd=>
       af (decide (x4<(x.N.length:Int)))
        (((0:Int)<=x4/\x4<(x.N.length:Int))/\
        aO (σ:=Int×(List Int)) (0,[]) λ⟨x8,args⟩ next3=>
         af (decide (x8<(((P9 x.N x4).Z).length:Int)))
          (((0:Int)<=x8/\x8<(((P9 x.N x4).Z).length:Int))/\
          ((0:Int)<=(P9 ((P9 x.N x4).Z) x8)/\(P9 ((P9 x.N x4).Z) x8)<(QV.length:Int))/\
          ((args++[(P9 QV (P9 ((P9 x.N x4).Z) x8))]).length*8<=140737488355328)/\
          Qe (x8+1)/\
          next3 ((x8+1),(args++[(P9 QV (P9 ((P9 x.N x4).Z) x8))])))
          (Qe (x.Y+x4)/\
          ∃u2 u3 u4 r4,(io (P9 x.N x4) args order place x7 x5 x6 λy1 y2 y3 y4=>y1=u2/\y2=u3/\y3=u4/\y4=r4)/\
          ((0:Int)<=(x.Y+x4)/\(x.Y+x4)<(QV.length:Int))/\
          Qe (x.Y+x4)/\
          ((0:Int)<=(x.Y+x4)/\(x.Y+x4)<(QV.length:Int))/\
          bP (P9 (Qt QV (x.Y+x4) r4) (x.Y+x4)) 4096 order place u2 u3 u4 λr5=>
          af (!r5)
           (Q (⟨[],[],0⟩:Qs) (some 4))
           (Qe (x4+1)/\
           Qd ((x4+1),(Qt QV (x.Y+x4) r4),u3,u4,u2))))
        (((0:Int)<=x.A/\x.A<(QV.length:Int))/\
        dA (P9 QV x.A) order place x7 x5 x6 λr6=>
        Q r6 none))))
def jc(d:Qs)(Tn:List Int)(i:Int)(Q:Option Int->Prop):Prop:=
 ((0:Int)<=i/\i<(d.N.length:Int))/\
 bV (α:=Bool) (λnext3=>
  af (decide ((P9 d.N i).T<0))
   (next3 true)
   (af (decide ((d.M.length:Int)<=(P9 d.N i).T))
    (next3 true)
    (af (decide ((min ((P9 d.N i).F) ((P9 d.N i).D))<0))
     (next3 true)
     (Qe (1+i)/\
     next3 (decide ((1+i)<(max ((P9 d.N i).F) ((P9 d.N i).D))))))))
  λx=>
  af x
   (Q (some 10))
   (af ((P9 d.N i).F==(P9 d.N i).D)
    (Q (some 2))
    (aO (σ:=Int) 0 λx1 Qc=>
     af (decide (x1<([(P9 d.N i).F,(P9 d.N i).D].length:Int)))
      (((0:Int)<=x1/\x1<([(P9 d.N i).F,(P9 d.N i).D].length:Int))/\
      kf (P9 [(P9 d.N i).F,(P9 d.N i).D] x1) λr=>
      bV (α:=Bool) (λQd=>
       af (decide (2<=r))
        (Qe (r-2)/\
        ((0:Int)<=(r-2)/\(r-2)<(d.N.length:Int))/\
        ((0:Int)<=(P9 d.N (r-2)).T/\(P9 d.N (r-2)).T<(Tn.length:Int))/\
        ((0:Int)<=(P9 d.N i).T/\(P9 d.N i).T<(Tn.length:Int))/\
        Qd (decide ((P9 Tn ((P9 d.N (r-2)).T))<=(P9 Tn ((P9 d.N i).T)))))
        (Qd false))
       λx2=>
       af x2
        (Q (some 13))
        (Qe (x1+1)/\
        Qc (x1+1)))
      (Q none)))
def bI:Nat->Int->Qs->Bool->Int->(List Bool)->(Bool->Int->List Bool->Prop)->Prop
 | 0,_,_,_,_,_,_=>False
 | fu+1,r,u,u1,u2,u3,Q=>
  af (decide (r<2))
   (Q u1 u2 u3)
   (Qe (r-2)/\
   ((0:Int)<=(r-2)/\(r-2)<(u3.length:Int))/\
   af (P9 u3 (r-2))
    (Q u1 u2 u3)
    (Qe (r-2)/\
    ((0:Int)<=(r-2)/\(r-2)<(u3.length:Int))/\
    Qe (r-2)/\
    ((0:Int)<=(r-2)/\(r-2)<(u.N.length:Int))/\
    ∃u4 u5 u6,(bI fu ((P9 u.N (r-2)).F) u u1 u2 (Qt u3 (r-2) true) λy1 y2 y3=>y1=u4/\y2=u5/\y3=u6)/\
    u6.length=(Qt u3 (r-2) true).length/\
    Qe (r-2)/\
    ((0:Int)<=(r-2)/\(r-2)<(u.N.length:Int))/\
    ∃u7 u8 u9,(bI fu ((P9 u.N (r-2)).D) u u4 u5 u6 λy4 y5 y6=>y4=u7/\y5=u8/\y6=u9)/\
    u9.length=u6.length/\
    bV (α:=Bool) (λQc=>
     af u7
      (Qe (r-2)/\
      Qc ((r-2)==u8))
      (Qc false))
     λx=>
     Qe (u8+1)/\
     Q x (u8+1) u9))
def jG(d:Qs)(Q:Bool->Prop):Prop:=
 jo 1 (d.N.length:Int) (d.N.length:Int)/\
 ∃fu,bI fu d.V d true 0 (bA (d.N.length:Int) false) λok Qc u=>
 u.length=(bA (d.N.length:Int) false).length/\
 af ok
  (Q (Qc==(d.N.length:Int)))
  (Q false)
def mV(d:Qs)(Q:Option Int->Prop):Prop:=
 kn d.M λr r1=>
 af (isSome r1)
  (Q r1)
  (af (decide (4096<(d.N.length:Int)))
   (Q (some 4))
   (aO (σ:=Int×(Qa Bool)) (0,(de:Qa Bool)) λ⟨x,x1⟩ Qc=>
    af (decide (x<(d.N.length:Int)))
     (((0:Int)<=x/\x<(d.N.length:Int))/\
     jc d r x λerr=>
     af (isSome err)
      (Q err)
      (af (getD (bB x1 [(P9 d.N x).T,(P9 d.N x).F,(P9 d.N x).D]) false)
       (Q (some 6))
       (Qe (x+1)/\
       Qc ((x+1),(QL x1 [(P9 d.N x).T,(P9 d.N x).F,(P9 d.N x).D] true)))))
     (bV (α:=Bool) (λQd=>
      af (decide (d.V<0))
       (Qd true)
       (Qe (1+(d.N.length:Int))/\
       Qd (decide ((1+(d.N.length:Int))<d.V))))
      λx2=>
      af x2
       (Q (some 10))
       (jG d λr2=>
       af (!r2)
        (Q (some 2))
        (Q none)))))
def cJ(f:GFormula)(Q:Bool->Option Int->Prop):Prop:=
 gD f λr r1=>
 af (isSome r1)
  (Q false r1)
  (aO (σ:=Int) 0 λx Qc=>
   af (decide (x<(r.N.length:Int)))
    (((0:Int)<=x/\x<(r.N.length:Int))/\
    bV (α:=Bool) (λQd=>
     af ((P9 r.N x).U==1)
      (Qd true)
      (Qd ((P9 r.N x).U==5)))
     λx1=>
     af x1
      (Q false none)
      (Qe (x+1)/\
      Qc (x+1)))
    (Q true none))
def kP(f:GFormula)(Q:List Bool->Prop):Prop:=
 Qe (f.Y+(f.N.length:Int))/\
 jo 1 (f.Y+(f.N.length:Int)) (f.Y+(f.N.length:Int))/\
 ((0:Int)<=f.A/\f.A<((toNat (f.Y+(f.N.length:Int))):Int))/\
 Qe ((f.N.length:Int)-1)/\
 aO (σ:=Int×(List Bool)) (((f.N.length:Int)-1),(Qt (bA (f.Y+(f.N.length:Int)) false) f.A true)) λ⟨i,out⟩ Qc=>
  af (decide (0<=i))
   (Qe (f.Y+i)/\
   ((0:Int)<=(f.Y+i)/\(f.Y+i)<(out.length:Int))/\
   af (P9 out (f.Y+i))
    (((0:Int)<=i/\i<(f.N.length:Int))/\
    aO (σ:=Int×(List Bool)) (0,out) λ⟨x,Re⟩ Qd=>
     af (decide (x<(((P9 f.N i).Z).length:Int)))
      (((0:Int)<=x/\x<(((P9 f.N i).Z).length:Int))/\
      ((0:Int)<=(P9 ((P9 f.N i).Z) x)/\(P9 ((P9 f.N i).Z) x)<(Re.length:Int))/\
      Qe (x+1)/\
      Qd ((x+1),(Qt Re (P9 ((P9 f.N i).Z) x) true)))
      (Qe (i-1)/\
      Qc ((i-1),Re)))
    (Qe (i-1)/\
    Qc ((i-1),out)))
   (Q out)
def mX(args:List (List Int))(k1:Int)(Q:List Int->Option Int->Prop):Prop:=
 Qe (k1+1)/\
 jo 24 (k1+1) (k1+1)/\
 ((0:Int)<=0/\0<((toNat (k1+1)):Int))/\
 Qe ((args.length:Int)-1)/\
 aO (σ:=(List (List Int))×Int) ((Qt (bA (k1+1) []) 0 [0]),((args.length:Int)-1)) λ⟨t1,i⟩ Qc=>
  af (decide (0<=i))
   (aO (σ:=Int×(List (List Int))) (1,[[0]]) λ⟨j,Qd⟩ next3=>
    af (decide (j<=k1))
     (((0:Int)<=i/\i<(args.length:Int))/\
     Qe (j-1)/\
     ((0:Int)<=(j-1)/\(j-1)<(t1.length:Int))/\
     Dl (cR (P9 args i) (P9 t1 (j-1))) λr r1=>
     af (isSome r1)
      (Q [] r1)
      (((0:Int)<=j/\j<(t1.length:Int))/\
      gb r (P9 t1 j) λr2 r3=>
      af (isSome r3)
       (Q [] r3)
       (((Qd++[r2]).length*24<=140737488355328)/\
       Qe (j+1)/\
       next3 ((j+1),(Qd++[r2])))))
     (Qe (i-1)/\
     Qc (Qd,(i-1))))
   (((0:Int)<=k1/\k1<(t1.length:Int))/\
   Q (P9 t1 k1) none)
def eY(args:List (List Int))(first:List Int)(Q:List Int->Option Int->Prop):Prop:=aO (σ:=(List Int)×Int) (first,0) λ⟨out,x⟩ Qc=>
  af (decide (x<(args.length:Int)))
   (((0:Int)<=x/\x<(args.length:Int))/\
   gb out (P9 args x) λr r1=>
   af (isSome r1)
    (Q [] r1)
    (Qe (x+1)/\
    Qc (r,(x+1))))
   (Q out none)
def dX(args:List (List Int))(first:List Int)(Q:List Int->Option Int->Prop):Prop:=aO (σ:=(List Int)×Int) (first,0) λ⟨out,x⟩ Qc=>
  af (decide (x<(args.length:Int)))
   (((0:Int)<=x/\x<(args.length:Int))/\
   cR out (P9 args x) λr r1=>
   af (isSome r1)
    (Q [] r1)
    (Qe (x+1)/\
    Qc (r,(x+1))))
   (Q out none)
def mY(n:QN)(args:List (List Int))(Q:List Int->Option Int->Prop):Prop:=
 af (n.U==0)
  (af (n.K==1)
   (Q [0] none)
   (Q [] none))
  (af (n.U==3)
   (eY args [] λr r1=>
   Q r r1)
   (af (n.U==2)
    (dX args [0] λr2 r3=>
    Q r2 r3)
    (mX args n.K λr4 r5=>
    Q r4 r5)))
def gp(f:GFormula)(Q:List (List Int)->Option Int->Prop):Prop:=
 cJ f λr r1=>
 af (isSome r1)
  (Q [] r1)
  (af (!r)
   (Q [] (some 7))
   (kP f λneed=>
   jo 24 (f.N.length:Int) (f.N.length:Int)/\
   aO (σ:=Int×(List (List Int))) (0,(bA (f.N.length:Int) [])) λ⟨x,out⟩ Qc=>
    af (decide (x<(f.N.length:Int)))
     (((0:Int)<=x/\x<(f.N.length:Int))/\
     Qe (f.Y+x)/\
     ((0:Int)<=(f.Y+x)/\(f.Y+x)<(need.length:Int))/\
     af (!(P9 need (f.Y+x)))
      (Qe (x+1)/\
      Qc ((x+1),out))
      (aO (σ:=Int×(List (List Int))) (0,[]) λ⟨x1,args⟩ Qd=>
       af (decide (x1<(((P9 f.N x).Z).length:Int)))
        (((0:Int)<=x1/\x1<(((P9 f.N x).Z).length:Int))/\
        af (decide ((P9 ((P9 f.N x).Z) x1)<f.Y))
         ((((0:Int)<=(P9 ((P9 f.N x).Z) x1)/\(P9 ((P9 f.N x).Z) x1)<=64)/\Qe (1*2^(toNat (P9 ((P9 f.N x).Z) x1))))/\
         ((args++[[(1*2^(toNat (P9 ((P9 f.N x).Z) x1)))]]).length*24<=140737488355328)/\
         Qe (x1+1)/\
         Qd ((x1+1),(args++[[(1*2^(toNat (P9 ((P9 f.N x).Z) x1)))]])))
         (Qe ((P9 ((P9 f.N x).Z) x1)-f.Y)/\
         ((0:Int)<=((P9 ((P9 f.N x).Z) x1)-f.Y)/\((P9 ((P9 f.N x).Z) x1)-f.Y)<(out.length:Int))/\
         ((args++[(P9 out ((P9 ((P9 f.N x).Z) x1)-f.Y))]).length*24<=140737488355328)/\
         Qe (x1+1)/\
         Qd ((x1+1),(args++[(P9 out ((P9 ((P9 f.N x).Z) x1)-f.Y))]))))
        (mY (P9 f.N x) args λr2 r3=>
        ((0:Int)<=x/\x<(out.length:Int))/\
        af (isSome r3)
         (Q [] r3)
         (Qe (x+1)/\
         Qc ((x+1),(Qt out x r2))))))
     (Q out none)))
def eZ(f:GFormula)(Q:List Int->Option Int->Prop):Prop:=
 gp f λr r1=>
 af (isSome r1)
  (Q [] r1)
  (af (decide (f.A<f.Y))
   ((((0:Int)<=f.A/\f.A<=64)/\Qe (1*2^(toNat f.A)))/\
   Q [(1*2^(toNat f.A))] none)
   (Qe (f.A-f.Y)/\
   ((0:Int)<=(f.A-f.Y)/\(f.A-f.Y)<(r.length:Int))/\
   Q (P9 r (f.A-f.Y)) none))
def lU(f:GFormula)(Q:Option Int->Prop):Prop:=
 cJ f λr r1=>
 bV (α:=Bool) (λQc=>
  af (isNone r1)
   (Qc (!r))
   (Qc false))
  λx=>
  af x
   (Q (some 7))
   (Q r1)
def ta(args:List (List Int))(Q:List Int->Option Int->Prop):Prop:=aO (σ:=(List Int)×Int) ([0],0) λ⟨out,x⟩ Qc=>
  af (decide (x<(args.length:Int)))
   (((0:Int)<=x/\x<(args.length:Int))/\
   cR out (P9 args x) λr r1=>
   af (isSome r1)
    (Q [] r1)
    (Qe (x+1)/\
    Qc (r,(x+1))))
   (Q out none)
def rm(args:List (List Int))(Q:List Int->Option Int->Prop):Prop:=aO (σ:=(List Int)×Int) ([],0) λ⟨out,x⟩ Qc=>
  af (decide (x<(args.length:Int)))
   (((0:Int)<=x/\x<(args.length:Int))/\
   gb out (P9 args x) λr r1=>
   af (isSome r1)
    (Q [] r1)
    (Qe (x+1)/\
    Qc (r,(x+1))))
   (Q out none)
def qk(args:List (List Int))(most:Int)(Q:List Int->Option Int->Prop):Prop:=
 Qe (most+1)/\
 jo 24 (most+1) (most+1)/\
 ((0:Int)<=0/\0<((toNat (most+1)):Int))/\
 aO (σ:=Int×(List (List Int))) (0,(Qt (bA (most+1) []) 0 [0])) λ⟨x,list⟩ Qc=>
  af (decide (x<(args.length:Int)))
   (((0:Int)<=x/\x<(args.length:Int))/\
   aO (σ:=Int×(List (List Int))) (most,list) λ⟨j,QU⟩ Qd=>
    af (decide (0<j))
     (Qe (j-1)/\
     ((0:Int)<=(j-1)/\(j-1)<(QU.length:Int))/\
     cR (P9 QU (j-1)) (P9 args x) λr r1=>
     af (isSome r1)
      (Q [] r1)
      (((0:Int)<=j/\j<(QU.length:Int))/\
      gb (P9 QU j) r λr2 r3=>
      ((0:Int)<=j/\j<(QU.length:Int))/\
      af (isSome r3)
       (Q [] r3)
       (Qe (j-1)/\
       Qd ((j-1),(Qt QU j r2)))))
     (Qe (x+1)/\
     Qc ((x+1),QU)))
   (((0:Int)<=most/\most<(list.length:Int))/\
   Q (P9 list most) none)
def nq(x:QN)(args:List (List Int))(Q:List Int->Option Int->Prop):Prop:=
 af (x.U==0)
  (af (x.K==0)
   (Q [0] none)
   (Q [] none))
  (af (x.U==3)
   (ta args λr r1=>
   Q r r1)
   (af (x.U==2)
    (rm args λr2 r3=>
    Q r2 r3)
    (Qe ((args.length:Int)-x.K)/\
    Qe (((args.length:Int)-x.K)+1)/\
    qk args (((args.length:Int)-x.K)+1) λr4 r5=>
    Q r4 r5)))
def eA(f:GFormula)(Q:List Int->Option Int->Prop):Prop:=
 lU f λe=>
 af (isSome e)
  (Q [] e)
  (gD f λr r1=>
  af (isSome r1)
   (Q [] r1)
   (Qe (r.Y+(r.N.length:Int))/\
   jo 24 0 (r.Y+(r.N.length:Int))/\
   aO (σ:=Int×(List (List Int))) (0,(bA 0 [])) λ⟨x,list⟩ Qc=>
    af (decide (x<r.Y))
     ((((0:Int)<=x/\x<=64)/\Qe (1*2^(toNat x)))/\
     ((list++[[(1*2^(toNat x))]]).length*24<=140737488355328)/\
     Qe (x+1)/\
     Qc ((x+1),(list++[[(1*2^(toNat x))]])))
     (aO (σ:=Int×(List (List Int))) (0,list) λ⟨x1,QU⟩ Qd=>
      af (decide (x1<(r.N.length:Int)))
       (((0:Int)<=x1/\x1<(r.N.length:Int))/\
       aO (σ:=Int×(List (List Int))) (0,[]) λ⟨x2,args⟩ next3=>
        af (decide (x2<(((P9 r.N x1).Z).length:Int)))
         (((0:Int)<=x2/\x2<(((P9 r.N x1).Z).length:Int))/\
         ((0:Int)<=(P9 ((P9 r.N x1).Z) x2)/\(P9 ((P9 r.N x1).Z) x2)<(QU.length:Int))/\
         ((args++[(P9 QU (P9 ((P9 r.N x1).Z) x2))]).length*24<=140737488355328)/\
         Qe (x2+1)/\
         next3 ((x2+1),(args++[(P9 QU (P9 ((P9 r.N x1).Z) x2))])))
         (nq (P9 r.N x1) args λr2 r3=>
         af (isSome r3)
          (Q [] r3)
          (((QU++[r2]).length*24<=140737488355328)/\
          Qe (x1+1)/\
          Qd ((x1+1),(QU++[r2])))))
       (((0:Int)<=r.A/\r.A<(QU.length:Int))/\
       bY (P9 QU r.A) λr4=>
       Q r4 none))))
def ii(l:List Int)(Q:List Int->Option Int->Prop):Prop:=
 lK l λr r1=>
 af (isSome r1)
  (Q [] r1)
  (aO (σ:=(List Int)×Int) ([0],0) λ⟨out,x⟩ Qc=>
   af (decide (x<(r.length:Int)))
    (((0:Int)<=x/\x<(r.length:Int))/\
    aO (σ:=Int×(List Int)) (0,[]) λ⟨x1,single⟩ Qd=>
     af (decide (x1<24))
      (sX (P9 r x) x1 λr2=>
      af r2
       ((((0:Int)<=x1/\x1<=64)/\Qe (1*2^(toNat x1)))/\
       ((single++[(1*2^(toNat x1))]).length*8<=140737488355328)/\
       Qe (x1+1)/\
       Qd ((x1+1),(single++[(1*2^(toNat x1))])))
       (Qe (x1+1)/\
       Qd ((x1+1),single)))
      (cR out single λr3 r4=>
      af (isSome r4)
       (Q [] r4)
       (Qe (x+1)/\
       Qc (r3,(x+1)))))
    (Q out none))
def dQ(r:Grow)(f:GFormula)(arg:Int)(Q:Grow->Prop):Prop:=
 af (decide (arg<f.Y))
  ((((0:Int)<=arg/\arg<=64)/\Qe (1*2^(toNat arg)))/\
  Q (⟨(bits .or .i64 r.events (1*2^(toNat arg))),(r.nodes.1,r.nodes.2)⟩:Grow))
  (Qe (arg-f.Y)/\
  Qe (tdiv (arg-f.Y) 64)/\
  af ((tdiv (arg-f.Y) 64)==0)
   (((0:Int)<=(tmod (arg-f.Y) 64)/\(tmod (arg-f.Y) 64)<=64)/\
   Q (⟨r.events,((bits .or .u64 r.nodes.1 (wrap .u64 (1*2^(toNat (tmod (arg-f.Y) 64))))),r.nodes.2)⟩:Grow))
   (af ((tdiv (arg-f.Y) 64)==1)
    (((0:Int)<=(tmod (arg-f.Y) 64)/\(tmod (arg-f.Y) 64)<=64)/\
    Q (⟨r.events,(r.nodes.1,(bits .or .u64 r.nodes.2 (wrap .u64 (1*2^(toNat (tmod (arg-f.Y) 64))))))⟩:Grow))
    (False)))
def jB(l:List Grow)(Q:Int->Prop):Prop:=aO (σ:=Int×Int) ((-1),0) λ⟨out,x⟩ Qc=>
  af (decide (x<(l.length:Int)))
   (((0:Int)<=x/\x<(l.length:Int))/\
   aO (σ:=Int) 1 λk1 Qd=>
    af (decide (0<=k1))
     (af (k1==0)
      (af (((P9 l x).nodes).1 != 0)
       (Qe (64*k1)/\
       il (((P9 l x).nodes).1) λr=>
       Qe ((64*k1)+r)/\
       Qe (((64*k1)+r)-1)/\
       Qe (x+1)/\
       Qc ((max out (((64*k1)+r)-1)),(x+1)))
       (Qe (k1-1)/\
       Qd (k1-1)))
      (af (k1==1)
       (af (((P9 l x).nodes).2 != 0)
        (Qe (64*k1)/\
        il (((P9 l x).nodes).2) λr1=>
        Qe ((64*k1)+r1)/\
        Qe (((64*k1)+r1)-1)/\
        Qe (x+1)/\
        Qc ((max out (((64*k1)+r1)-1)),(x+1)))
        (Qe (k1-1)/\
        Qd (k1-1)))
       (False)))
     (Qe (x+1)/\
     Qc (out,(x+1))))
   (Q out)
def gP(r:Grow)(i:Int)(Q:Bool->Prop):Prop:=
 Qe (tdiv i 64)/\
 af ((tdiv i 64)==0)
  (((0:Int)<=(tmod i 64)/\(tmod i 64)<=64)/\
  Q ((bits .and .u64 (r.nodes.1/2^(toNat (tmod i 64))) 1)==1))
  (af ((tdiv i 64)==1)
   (((0:Int)<=(tmod i 64)/\(tmod i 64)<=64)/\
   Q ((bits .and .u64 (r.nodes.2/2^(toNat (tmod i 64))) 1)==1))
   (False))
def fj(r:Grow)(i:Int)(Q:Grow->Prop):Prop:=
 Qe (tdiv i 64)/\
 af ((tdiv i 64)==0)
  (((0:Int)<=(tmod i 64)/\(tmod i 64)<=64)/\
  Q (⟨r.events,((bits .andNot .u64 r.nodes.1 (wrap .u64 (1*2^(toNat (tmod i 64))))),r.nodes.2)⟩:Grow))
  (af ((tdiv i 64)==1)
   (((0:Int)<=(tmod i 64)/\(tmod i 64)<=64)/\
   Q (⟨r.events,(r.nodes.1,(bits .andNot .u64 r.nodes.2 (wrap .u64 (1*2^(toNat (tmod i 64))))))⟩:Grow))
   (False))
def gi(r:Grow)(Q:Int->Prop):Prop:=
 my (qg r.events) λr1=>
 my (dt r.nodes.1) λr2=>
 Qe (r1+r2)/\
 my (dt r.nodes.2) λr3=>
 Qe ((r1+r2)+r3)/\
 Q ((r1+r2)+r3)
def dH(a b:Grow)(Q:Int->Prop):Prop:=
 my (gi a) λr=>
 my (gi b) λr1=>
 Qe (r-r1)/\
 Q (r-r1)
def bG(a b:Int)(data:List Grow)(Q:List Grow->Prop):Prop:=
 Qe (a+1)/\
 aO (σ:=Int×(List Grow)) ((a+1),data) λ⟨i,QA⟩ Qc=>
  af (decide (i<b))
   (aO (σ:=Int×(List Grow)) (i,QA) λ⟨j,Qx⟩ Qd=>
    af (decide (a<j))
     (((0:Int)<=j/\j<(Qx.length:Int))/\
     Qe (j-1)/\
     ((0:Int)<=(j-1)/\(j-1)<(Qx.length:Int))/\
     my (dH (P9 Qx j) (P9 Qx (j-1))) λr=>
     af (decide (r<0))
      (Qe (j-1)/\
      Qe (j-1)/\
      ((0:Int)<=(j-1)/\(j-1)<(Qx.length:Int))/\
      ((0:Int)<=j/\j<(Qx.length:Int))/\
      ((0:Int)<=j/\j<(Qx.length:Int))/\
      ((0:Int)<=(j-1)/\(j-1)<(Qx.length:Int))/\
      Qe (j-1)/\
      Qd ((j-1),(Qt (Qt Qx j (P9 Qx (j-1))) (j-1) (P9 Qx j))))
      (Qe (i+1)/\
      Qc ((i+1),Qx)))
     (Qe (i+1)/\
     Qc ((i+1),Qx)))
   (Q QA)
def bz(a b n:Int)(data:List Grow)(Q:List Grow->Prop):Prop:=aO (σ:=Int×(List Grow)) (0,data) λ⟨i,QA⟩ Qc=>
  af (decide (i<n))
   (Qe (a+i)/\
   Qe (b+i)/\
   Qe (b+i)/\
   ((0:Int)<=(b+i)/\(b+i)<(QA.length:Int))/\
   Qe (a+i)/\
   ((0:Int)<=(a+i)/\(a+i)<(QA.length:Int))/\
   ((0:Int)<=(a+i)/\(a+i)<(QA.length:Int))/\
   ((0:Int)<=(b+i)/\(b+i)<(QA.length:Int))/\
   Qe (i+1)/\
   Qc ((i+1),(Qt (Qt QA (a+i) (P9 QA (b+i))) (b+i) (P9 QA (a+i)))))
   (Q QA)
def b_(a m b:Int)(data:List Grow)(Q:List Grow->Prop):Prop:=
 Qe (m-a)/\
 Qe (b-m)/\
 aO (σ:=Int×Int×(List Grow)) ((m-a),(b-m),data) λ⟨i,j,QA⟩ Qc=>
  af (i != j)
   (af (decide (j<i))
    (Qe (m-i)/\
    bz (m-i) m j QA λQx=>
    Qx.length=QA.length/\
    Qe (i-j)/\
    Qc ((i-j),j,Qx))
    (Qe (m-i)/\
    Qe (m+j)/\
    Qe ((m+j)-i)/\
    bz (m-i) ((m+j)-i) i QA λRc=>
    Rc.length=QA.length/\
    Qe (j-i)/\
    Qc (i,(j-i),Rc)))
   (Qe (m-i)/\
   bz (m-i) m i QA λRQ=>
   RQ.length=QA.length/\
   Q RQ)
def aL:Nat->Int->Int->Int->(List Grow)->(List Grow->Prop)->Prop
 | 0,_,_,_,_,_=>False
 | fu+1,a,m,b,data,Q=>
  Qe (m-a)/\
  af ((m-a)==1)
   (aO (σ:=Int×Int) (m,b) λ⟨i,j⟩ Qc=>
    af (decide (i<j))
     (Qe (i+j)/\
     kf (wrap .i64 ((wrap .u64 (i+j))/2^(toNat 1))) λh1=>
     ((0:Int)<=h1/\h1<(data.length:Int))/\
     ((0:Int)<=a/\a<(data.length:Int))/\
     my (dH (P9 data h1) (P9 data a)) λr=>
     af (decide (r<0))
      (Qe (h1+1)/\
      Qc ((h1+1),j))
      (Qc (i,h1)))
     (aO (σ:=Int×(List Grow)) (a,data) λ⟨k1,QA⟩ Qd=>
      Qe (i-1)/\
      af (decide (k1<(i-1)))
       (Qe (k1+1)/\
       Qe (k1+1)/\
       ((0:Int)<=(k1+1)/\(k1+1)<(QA.length:Int))/\
       ((0:Int)<=k1/\k1<(QA.length:Int))/\
       ((0:Int)<=k1/\k1<(QA.length:Int))/\
       ((0:Int)<=(k1+1)/\(k1+1)<(QA.length:Int))/\
       Qe (k1+1)/\
       Qd ((k1+1),(Qt (Qt QA k1 (P9 QA (k1+1))) (k1+1) (P9 QA k1))))
       (Q QA)))
   (Qe (b-m)/\
   af ((b-m)==1)
    (aO (σ:=Int×Int) (a,m) λ⟨i1,j1⟩ next3=>
     af (decide (i1<j1))
      (Qe (i1+j1)/\
      kf (wrap .i64 ((wrap .u64 (i1+j1))/2^(toNat 1))) λh2=>
      ((0:Int)<=m/\m<(data.length:Int))/\
      ((0:Int)<=h2/\h2<(data.length:Int))/\
      my (dH (P9 data m) (P9 data h2)) λr1=>
      af (!(decide (r1<0)))
       (Qe (h2+1)/\
       next3 ((h2+1),j1))
       (next3 (i1,h2)))
      (aO (σ:=Int×(List Grow)) (m,data) λ⟨k2,Qx⟩ QD=>
       af (decide (i1<k2))
        (Qe (k2-1)/\
        Qe (k2-1)/\
        ((0:Int)<=(k2-1)/\(k2-1)<(Qx.length:Int))/\
        ((0:Int)<=k2/\k2<(Qx.length:Int))/\
        ((0:Int)<=k2/\k2<(Qx.length:Int))/\
        ((0:Int)<=(k2-1)/\(k2-1)<(Qx.length:Int))/\
        Qe (k2-1)/\
        QD ((k2-1),(Qt (Qt Qx k2 (P9 Qx (k2-1))) (k2-1) (P9 Qx k2))))
        (Q Qx)))
    (Qe (a+b)/\
    kf (wrap .i64 ((wrap .u64 (a+b))/2^(toNat 1))) λQQ=>
    Qe (QQ+m)/\
    bV (α:=Int×Int) (λXO=>
     af (decide (QQ<m))
      (Qe ((QQ+m)-b)/\
      XO (((QQ+m)-b),QQ))
      (XO (a,m)))
     λ⟨start,r2⟩=>
     Qe ((QQ+m)-1)/\
     aO (σ:=Int×Int) (start,r2) λ⟨QX,r3⟩ Ro=>
      af (decide (QX<r3))
       (Qe (QX+r3)/\
       kf (wrap .i64 ((wrap .u64 (QX+r3))/2^(toNat 1))) λc=>
       Qe (((QQ+m)-1)-c)/\
       ((0:Int)<=(((QQ+m)-1)-c)/\(((QQ+m)-1)-c)<(data.length:Int))/\
       ((0:Int)<=c/\c<(data.length:Int))/\
       my (dH (P9 data (((QQ+m)-1)-c)) (P9 data c)) λr4=>
       af (!(decide (r4<0)))
        (Qe (c+1)/\
        Ro ((c+1),r3))
        (Ro (QX,c)))
       (Qe ((QQ+m)-QX)/\
       bV (α:=(List Grow)) (λZV=>bV (α:=Bool) (λXP=>
         af (decide (QX<m))
          (XP (decide (m<((QQ+m)-QX))))
          (XP false))
         λx2=>
         af x2
          (b_ QX m ((QQ+m)-QX) data λS7=>
          S7.length=data.length/\
          ZV S7)
          (ZV data))
        λRc=>
        bV (α:=(List Grow)) (λVL=>bV (α:=Bool) (λVK=>
          af (decide (a<QX))
           (VK (decide (QX<QQ)))
           (VK false))
          λx1=>
          af x1
           (aL fu a QX QQ Rc λSl=>
           Sl.length=Rc.length/\
           VL Sl)
           (VL Rc))
         λRQ=>
         bV (α:=Bool) (λT4=>
          af (decide (QQ<((QQ+m)-QX)))
           (T4 (decide (((QQ+m)-QX)<b)))
           (T4 false))
          λx=>
          af x
           (aL fu QQ ((QQ+m)-QX) b RQ λR_=>
           R_.length=RQ.length/\
           Q R_)
           (Q RQ))))
def cQ(n:Int)(data:List Grow)(Q:List Grow->Prop):Prop:=aO (σ:=Int×Int×(List Grow)) (0,20,data) λ⟨a,b,QA⟩ Qc=>
  af (decide (b<=n))
   (bG a b QA λQx=>
   Qx.length=QA.length/\
   Qe (b+20)/\
   Qc (b,(b+20),Qx))
   (bG a n QA λRc=>
   Rc.length=QA.length/\
   aO (σ:=Int×(List Grow)) (20,Rc) λ⟨Qi,RQ⟩ Qd=>
    af (decide (Qi<n))
     (Qe (2*Qi)/\
     aO (σ:=Int×Int×(List Grow)) (0,(2*Qi),RQ) λ⟨a1,b1,R_⟩ next3=>
      af (decide (b1<=n))
       (Qe (a1+Qi)/\
       ∃fu,aL fu a1 (a1+Qi) b1 R_ λSl=>
       Sl.length=R_.length/\
       Qe (2*Qi)/\
       Qe (b1+(2*Qi))/\
       next3 (b1,(b1+(2*Qi)),Sl))
       (Qe (a1+Qi)/\
       af (decide ((a1+Qi)<n))
        (∃fu,aL fu a1 (a1+Qi) n R_ λS7=>
        S7.length=R_.length/\
        Qe (Qi*2)/\
        Qd ((Qi*2),S7))
        (Qe (Qi*2)/\
        Qd ((Qi*2),R_))))
     (Q RQ))
def bK(x:List Grow)(Q:List Grow->Prop):Prop:=
 cQ (x.length:Int) x λx1=>
 x1.length=x.length/\
 Q x1
def gk(r s:Grow)(Q:Bool->Prop):Prop:=
 af ((bits .andNot .i64 r.events s.events)==0)
  (af ((bits .andNot .u64 r.nodes.1 s.nodes.1)==0)
   (Q ((bits .andNot .u64 r.nodes.2 s.nodes.2)==0))
   (Q false))
  (Q false)
def mn(s u:Grow)(Q:Bool->Prop):Prop:=
 gk s u λr=>
 Q r
def bx(s:List Grow)(u:Grow)(Q:Int->Prop):Prop:=aO (σ:=Int) 0 λx Qc=>
  af (decide (x<(s.length:Int)))
   (((0:Int)<=x/\x<(s.length:Int))/\
   mn (P9 s x) u λr=>
   af r
    (Q x)
    (Qe (x+1)/\
    Qc (x+1)))
   (Q (-1))
def bM(s:List Grow)(u:Grow)(Q:Bool->Prop):Prop:=
 bx s u λr=>
 Q (decide (0<=r))
def mH(l:List Grow)(Q:List Grow->Prop):Prop:=
 bR l λl1=>
 bK l1 λl2=>
 l2.length=l1.length/\
 aO (σ:=Int×(List Grow)) (0,[]) λ⟨x,out⟩ Qc=>
  af (decide (x<(l1.length:Int)))
   (((0:Int)<=x/\x<(l1.length:Int))/\
   bM out (P9 l2 x) λr=>
   af (!r)
    (((out++[(P9 l2 x)]).length*24<=140737488355328)/\
    Qe (x+1)/\
    Qc ((x+1),(out++[(P9 l2 x)])))
    (Qe (x+1)/\
    Qc ((x+1),out)))
   (Q out)
def co(r:Grow)(u:List Grow)(Q:List Grow->Prop):Prop:=
 af (decide ((u.length:Int)<=4096))
  (((u++[r]).length*24<=140737488355328)/\
  Q (u++[r]))
  (Q u)
def bq:Nat->GFormula->Grow->(List Int)->Int->(List Grow)->(List Grow->Prop)->Prop
 | 0,_,_,_,_,_,_=>False
 | fu+1,f,r,args,k2,u,Q=>
  af (decide (4096<(u.length:Int)))
   (Q u)
   (af (decide ((args.length:Int)<k2))
    (Q u)
    (af (k2==0)
     (co r u λu1=>
     Q u1)
     (((0:Int)<=0/\0<(args.length:Int))/\
     my (dQ r f (P9 args 0)) λr1=>
     ((0:Int)<=1/\1<=(args.length:Int)/\(args.length:Int)<=(args.length:Int))/\
     Qe (k2-1)/\
     ∃u2,(bq fu f r1 (fV args 1 (args.length:Int)) (k2-1) u λy1=>y1=u2)/\
     ((0:Int)<=1/\1<=(args.length:Int)/\(args.length:Int)<=(args.length:Int))/\
     ∃u3,(bq fu f r (fV args 1 (args.length:Int)) k2 u2 λy2=>y2=u3)/\
     Q u3)))
def fz(f:GFormula)(r:Grow)(i:Int)(u:List Grow)(Q:List Grow->Prop):Prop:=
 ((0:Int)<=i/\i<(f.N.length:Int))/\
 fj r i λr1=>
 af ((P9 f.N i).U==0)
  (af ((P9 f.N i).K==1)
   (co r1 u λu1=>
   Q u1)
   (Q u))
  (af ((P9 f.N i).U==2)
   (aO (σ:=Int×Grow) (0,r1) λ⟨x,x1⟩ Qc=>
    af (decide (x<(((P9 f.N i).Z).length:Int)))
     (((0:Int)<=x/\x<(((P9 f.N i).Z).length:Int))/\
     dQ x1 f (P9 ((P9 f.N i).Z) x) λr2=>
     Qe (x+1)/\
     Qc ((x+1),r2))
     (co x1 u λu2=>
     Q u2))
   (af ((P9 f.N i).U==3)
    (aO (σ:=Int×(List Grow)) (0,u) λ⟨x2,x3⟩ Qd=>
     af (decide (x2<(((P9 f.N i).Z).length:Int)))
      (((0:Int)<=x2/\x2<(((P9 f.N i).Z).length:Int))/\
      dQ r1 f (P9 ((P9 f.N i).Z) x2) λr3=>
      co r3 x3 λu3=>
      Qe (x2+1)/\
      Qd ((x2+1),u3))
      (Q x3))
    (∃fu,bq fu f r1 ((P9 f.N i).Z) ((P9 f.N i).K) u λu4=>
    Q u4)))
def lS(f:GFormula)(Q:List Grow->List Int->Option Int->Prop):Prop:=
 cJ f λr r1=>
 af (isSome r1)
  (Q [] [] r1)
  (af (!r)
   (Q [] [] (some 7))
   (dQ (⟨0,(0,0)⟩:Grow) f f.A λr2=>
   aO (σ:=(List Grow)×(List Int)) ([r2],[]) λ⟨rows,steps⟩ Qc=>
    jB rows λi=>
    af (decide (i<0))
     (Q rows steps none)
     (aO (σ:=Int×(List Grow)) (0,[]) λ⟨x,x1⟩ Qd=>
      af (decide (x<(rows.length:Int)))
       (((0:Int)<=x/\x<(rows.length:Int))/\
       gP (P9 rows x) i λr3=>
       af r3
        (fz f (P9 rows x) i x1 λu=>
        Qe (x+1)/\
        Qd ((x+1),u))
        (co (P9 rows x) x1 λu1=>
        Qe (x+1)/\
        Qd ((x+1),u1)))
       (af (decide (4096<(x1.length:Int)))
        (Q [] [] (some 4))
        (mH x1 λUu=>
        af (decide (1024<(Uu.length:Int)))
         (Q [] [] (some 4))
         (((steps++[(Uu.length:Int)]).length*8<=140737488355328)/\
         Qc (Uu,(steps++[(Uu.length:Int)]))))))))
def fA(f:GFormula)(Q:List Int->Option Int->Prop):Prop:=
 lS f λr _ r2=>
 af (isSome r2)
  (Q [] r2)
  (aO (σ:=Int×(List Int)) (0,[]) λ⟨x,out⟩ Qc=>
   af (decide (x<(r.length:Int)))
    (((0:Int)<=x/\x<(r.length:Int))/\
    ((out++[(P9 r x).events]).length*8<=140737488355328)/\
    Qe (x+1)/\
    Qc ((x+1),(out++[(P9 r x).events])))
    (gr out λRe=>
    Re.length=out.length/\
    Q Re none))
def p'(z1:Q4)(Q:Option Int->Prop):Prop:=
 af (decide (4096<(z1.N.length:Int)))
  (Q (some 4))
  (aO (σ:=Int×(Qa Bool)) (0,(de:Qa Bool)) λ⟨x,x1⟩ Qc=>
   af (decide (x<(z1.N.length:Int)))
    (((0:Int)<=x/\x<(z1.N.length:Int))/\
    bV (α:=Bool) (λnext3=>
     af (decide ((P9 z1.N x).T<0))
      (next3 true)
      (af (decide (24<=(P9 z1.N x).T))
       (next3 true)
       (af (decide ((min ((P9 z1.N x).F) ((P9 z1.N x).D))<0))
        (next3 true)
        (Qe (1+x)/\
        next3 (decide ((1+x)<(max ((P9 z1.N x).F) ((P9 z1.N x).D))))))))
     λx2=>
     af x2
      (Q (some 10))
      (af ((P9 z1.N x).D==0)
       (Q (some 2))
       (bV (α:=Bool) (λQd=>
        af (decide (2<=(P9 z1.N x).F))
         (Qe ((P9 z1.N x).F-2)/\
         ((0:Int)<=((P9 z1.N x).F-2)/\((P9 z1.N x).F-2)<(z1.N.length:Int))/\
         af (decide ((P9 z1.N ((P9 z1.N x).F-2)).T<=(P9 z1.N x).T))
          (Qd true)
          (af (decide (2<=(P9 z1.N x).D))
           (Qe ((P9 z1.N x).D-2)/\
           ((0:Int)<=((P9 z1.N x).D-2)/\((P9 z1.N x).D-2)<(z1.N.length:Int))/\
           Qd (decide ((P9 z1.N ((P9 z1.N x).D-2)).T<=(P9 z1.N x).T)))
           (Qd false)))
         (af (decide (2<=(P9 z1.N x).D))
          (Qe ((P9 z1.N x).D-2)/\
          ((0:Int)<=((P9 z1.N x).D-2)/\((P9 z1.N x).D-2)<(z1.N.length:Int))/\
          Qd (decide ((P9 z1.N ((P9 z1.N x).D-2)).T<=(P9 z1.N x).T)))
          (Qd false)))
        λx3=>
        af x3
         (Q (some 13))
         (af (getD (bB x1 [(P9 z1.N x).T,(P9 z1.N x).F,(P9 z1.N x).D]) false)
          (Q (some 6))
          (Qe (x+1)/\
          Qc ((x+1),(QL x1 [(P9 z1.N x).T,(P9 z1.N x).F,(P9 z1.N x).D] true)))))))
    (bV (α:=Bool) (λRo=>
     af (decide (z1.V<0))
      (Ro true)
      (Qe (1+(z1.N.length:Int))/\
      Ro (decide ((1+(z1.N.length:Int))<z1.V))))
     λx4=>
     af x4
      (Q (some 10))
      (dl λunique memo=>
      dB z1 ([]:List P') unique memo λu u1 r=>
      dM r u u1 memo λr1=>
      bV (α:=Bool) (λQD=>
       af (r1.V != z1.V)
        (QD true)
        (e_ r1.N z1.N λr2=>
        QD (!r2)))
       λx5=>
       af x5
        (Q (some 2))
        (Q none))))
def oJ(list:List Q4)(Q:Option ((List P')×(Qa Int)×(Qa Int))->List Int->Option Int->Prop):Prop:=
 dl λunique memo=>
 aO (σ:=Int×(List Int)×(Qa Int)×(List P')) (0,[],unique,[]) λ⟨x,refs,x1,x2⟩ Qc=>
  af (decide (x<(list.length:Int)))
   (((0:Int)<=x/\x<(list.length:Int))/\
   p' (P9 list x) λerr=>
   af (isSome err)
    (Q none [] err)
    (dB (P9 list x) x2 x1 memo λu u1 r=>
    ((refs++[r]).length*8<=140737488355328)/\
    Qe (x+1)/\
    Qc ((x+1),(refs++[r]),u1,u)))
   (Q (some (x2,x1,memo)) refs none)
def oL(s:Int)(u:List Int)(Q:List Int->Prop):Prop:=
 ((u++[s]).length*8<=140737488355328)/\
 Q (u++[s])
def bL:Nat->Int->Int->(List Int)->(List P')->(Qa Int)->(Qa Int)->(List Int->Prop)->Prop
 | 0,_,_,_,_,_,_,_=>False
 | fu+1,r,set,u,nodes,unique,memo,Q=>
  af (decide (r<2))
   (af (r==1)
    (oL set u λu1=>
    Q u1)
    (Q u))
   (Qe (r-2)/\
   ((0:Int)<=(r-2)/\(r-2)<(nodes.length:Int))/\
   bL fu ((P9 nodes (r-2)).F) set u nodes unique memo λu2=>
   (((0:Int)<=(P9 nodes (r-2)).T/\(P9 nodes (r-2)).T<=64)/\Qe (1*2^(toNat ((P9 nodes (r-2)).T))))/\
   ∃u3,(bL fu ((P9 nodes (r-2)).D) (bits .or .i64 set (1*2^(toNat ((P9 nodes (r-2)).T)))) u2 nodes unique memo λy1=>y1=u3)/\
   Q u3)
def iX(a:Int)(nodes:List P')(unique memo:Qa Int)(u:List Int)(Q:List Int->Prop):Prop:=
 ∃fu,bL fu a 0 u nodes unique memo λu1=>
 Q u1
def oK(z1:Q4)(Q:List Int->Option Int->Prop):Prop:=
 oJ [z1] λo r r1=>
 MR o
  (af (isSome r1)
   (Q [] r1)
   (((0:Int)<=0/\0<(r.length:Int))/\
   False))
  λ⟨nodes,unique,memo⟩=>
  af (isSome r1)
   (Q [] r1)
   (((0:Int)<=0/\0<(r.length:Int))/\
   ∃fu,bg fu (P9 r 0) nodes unique memo λu r2=>
   af (decide (1024<r2))
    (Q [] (some 4))
    (((0:Int)<=0/\0<(r.length:Int))/\
    iX (P9 r 0) nodes unique u ([]:List Int) λu1=>
    ke u1 λu2=>
    u2.length=u1.length/\
    Q u2 none))
def kK(d:Qs)(Q:Option ((List Int)×(List Int)×(List P')×(Qa Int)×(Qa Int))->Int->Option Int->Prop):Prop:=
 mV d λerr=>
 af (isSome err)
  (Q none 0 err)
  (mM (d.M.length:Int) λr r1=>
  af (isSome r1)
   (Q none 0 r1)
   (iJ r λorder place unique memo=>
   dW d order place ([]:List P') unique memo λu u1 u2 r2=>
   Q (some (order,place,u,u1,u2)) r2 none))
def jI(r events:Int)(order place:List Int)(nodes:List P')(unique memo:Qa Int)(Q:List P'->Qa Int->Qa Int->Bool->Prop):Prop:=aO (σ:=Int×(List P')×(Qa Int)×(Qa Int)) (0,nodes,unique,memo) λ⟨x,x1,x2,x3⟩ Qc=>
  af (decide (x<events))
   (cX r x false order place x1 x2 x3 λu u1 u2 r1=>
   cX r x true order place u u1 u2 λu3 u4 u5 r2=>
   ∃fu,az fu r1 r2 1 order place u3 u4 u5 λu6 u7 u8 r3=>
   af (r3 != 1)
    (Q u6 u7 u8 false)
    (Qe (x+1)/\
    Qc ((x+1),u6,u7,u8)))
   (Q x1 x2 x3 true)
def gF(d:Qs)(Q:Q4->Option Int->Prop):Prop:=
 kK d λo1 r r1=>
 MR o1
  (af (isSome r1)
   (Q (⟨[],0⟩:Q4) r1)
   (False))
  λ⟨order,place,nodes,unique,memo⟩=>
  af (isSome r1)
   (Q (⟨[],0⟩:Q4) r1)
   (jI r (d.M.length:Int) order place nodes unique memo λu u1 u2 r2=>
   af (!r2)
    (Q (⟨[],0⟩:Q4) (some 7))
    (dl λRa R8=>
    eu r ([]:List P') Ra R8 order place u u1 u2 λu3 u4 u5 x=>
    iW x 4096 u3 u4 u5 λr3=>
    af (!r3)
     (Q (⟨[],0⟩:Q4) (some 4))
     (dM x u3 u4 u5 λr4=>
     Q r4 none)))
def qv(f:GFormula)(o:List Int)(Q:Q4->Option Int->Prop):Prop:=
 dT f λerr=>
 af (isSome err)
  (Q (⟨[],0⟩:Q4) err)
  (ji o f.Y λZq=>
  af (isSome Zq)
   (Q (⟨[],0⟩:Q4) Zq)
   (cJ f λr r1=>
   af (isSome r1)
    (Q (⟨[],0⟩:Q4) r1)
    (af (!r)
     (Q (⟨[],0⟩:Q4) (some 7))
     (jz f o λr2 r3=>
     af (isSome r3)
      (Q (⟨[],0⟩:Q4) r3)
      (gF r2 λr4 r5=>
      Q r4 r5)))))
def jR(f:GFormula)(o:List Int)(Q:List Int->Option Int->Prop):Prop:=
 qv f o λr r1=>
 af (isSome r1)
  (Q [] r1)
  (oK r λr2 r3=>
  Q r2 r3)
def gR(s:Int)(events:List Int)(_true1:List Bool)(Q:Int->Prop):Prop:=aO (σ:=Int×Int) (0,0) λ⟨out,x⟩ Qc=>
  af (decide (x<(events.length:Int)))
   (((0:Int)<=x/\x<(events.length:Int))/\
   ((0:Int)<=x/\x<=64)/\
   (((0:Int)<=(P9 events x)/\(P9 events x)<=64)/\Qe ((bits .and .i64 (s/2^(toNat x)) 1)*2^(toNat (P9 events x))))/\
   kf (bits .or .i64 out ((bits .and .i64 (s/2^(toNat x)) 1)*2^(toNat (P9 events x)))) λRe=>
   Qe (x+1)/\
   Qc (Re,(x+1)))
   (Q out)
def ju(f:GFormula)(Q:Option ((List Int)×(List Bool))->Option Int->Prop):Prop:=
 kB f λr r1=>
 af (isSome r1)
  (Q none r1)
  (fM (wrap .u64 r) λr2=>
  af (decide (12<r2))
   (Q none (some 4))
   (aO (σ:=Int×(List Int)) (0,[]) λ⟨x,x1⟩ Qc=>
    af (decide (x<24))
     (((0:Int)<=x/\x<=64)/\
     af ((bits .and .i64 (r/2^(toNat x)) 1)==1)
      (((x1++[x]).length*8<=140737488355328)/\
      Qe (x+1)/\
      Qc ((x+1),(x1++[x])))
      (Qe (x+1)/\
      Qc ((x+1),x1)))
     ((((0:Int)<=(x1.length:Int)/\(x1.length:Int)<=64)/\Qe (1*2^(toNat (x1.length:Int))))/\
     jo 1 (1*2^(toNat (x1.length:Int))) (1*2^(toNat (x1.length:Int)))/\
     aO (σ:=Int×(List Bool)) (0,(bA (1*2^(toNat (x1.length:Int))) false)) λ⟨x2,x3⟩ Qd=>
      af (decide (x2<((toNat (1*2^(toNat (x1.length:Int)))):Int)))
       (∃r3,(gR x2 x1 x3 λy1=>y1=r3)/\
       Dl (mR f r3) λr4 r5=>
       ((0:Int)<=x2/\x2<(x3.length:Int))/\
       af (isSome r5)
        (Q none r5)
        (Qe (x2+1)/\
        Qd ((x2+1),(Qt x3 x2 r4))))
       (Q (some (x1,x3)) none))))
def dJ(c k2:Int)(u:List Int)(Q:Int->Prop):Prop:=
 ((0:Int)<=k2/\k2<(u.length:Int))/\
 ((P9 u k2)≠0/\Qe (tdiv c (P9 u k2)))/\
 Q (tmod (tdiv c (P9 u k2)) 3)
def ez(events:List Int)(Q1:List Bool)(Q:List Q3->Option Int->Prop):Prop:=
 Qe ((events.length:Int)+1)/\
 jo 8 ((events.length:Int)+1) ((events.length:Int)+1)/\
 ((0:Int)<=0/\0<((toNat ((events.length:Int)+1)):Int))/\
 aO (σ:=Int×(List Int)) (0,(Qt (bA ((events.length:Int)+1) 0) 0 1)) λ⟨x,x1⟩ Qc=>
  af (decide (x<(events.length:Int)))
   (Qe (x+1)/\
   ((0:Int)<=x/\x<(x1.length:Int))/\
   Qe (3*(P9 x1 x))/\
   ((0:Int)<=(x+1)/\(x+1)<(x1.length:Int))/\
   Qe (x+1)/\
   Qc ((x+1),(Qt x1 (x+1) (3*(P9 x1 x)))))
   (((0:Int)<=(events.length:Int)/\(events.length:Int)<(x1.length:Int))/\
   jo 1 (P9 x1 (events.length:Int)) (P9 x1 (events.length:Int))/\
   aO (σ:=Int×(List Bool)) (0,(bA (P9 x1 (events.length:Int)) false)) λ⟨x2,is⟩ Qd=>
    af (decide (x2<((toNat (P9 x1 (events.length:Int))):Int)))
     (aO (σ:=Int×Int×Int) (0,(-1),0) λ⟨row,Tn,x3⟩ next3=>
      af (decide (x3<(events.length:Int)))
       (dJ x2 x3 x1 λr=>
       af (r==1)
        ((((0:Int)<=x3/\x3<=64)/\Qe (1*2^(toNat x3)))/\
        Qe (x3+1)/\
        next3 ((bits .or .i64 row (1*2^(toNat x3))),Tn,(x3+1)))
        (af (r==2)
         (Qe (x3+1)/\
         next3 (row,x3,(x3+1)))
         (Qe (x3+1)/\
         next3 (row,Tn,(x3+1)))))
       (af (decide (Tn<0))
        (((0:Int)<=row/\row<(Q1.length:Int))/\
        ((0:Int)<=x2/\x2<(is.length:Int))/\
        Qe (x2+1)/\
        Qd ((x2+1),(Qt is x2 (P9 Q1 row))))
        (((0:Int)<=Tn/\Tn<(x1.length:Int))/\
        Qe (x2-(P9 x1 Tn))/\
        ((0:Int)<=(x2-(P9 x1 Tn))/\(x2-(P9 x1 Tn))<(is.length:Int))/\
        af (P9 is (x2-(P9 x1 Tn)))
         (((0:Int)<=Tn/\Tn<(x1.length:Int))/\
         Qe (2*(P9 x1 Tn))/\
         Qe (x2-(2*(P9 x1 Tn)))/\
         ((0:Int)<=(x2-(2*(P9 x1 Tn)))/\(x2-(2*(P9 x1 Tn)))<(is.length:Int))/\
         ((0:Int)<=x2/\x2<(is.length:Int))/\
         Qe (x2+1)/\
         Qd ((x2+1),(Qt is x2 (P9 is (x2-(2*(P9 x1 Tn)))))))
         (((0:Int)<=x2/\x2<(is.length:Int))/\
         Qe (x2+1)/\
         Qd ((x2+1),(Qt is x2 false))))))
     (aO (σ:=Int×(List Q3)) (0,[]) λ⟨x4,out⟩ QD=>
      af (decide (x4<(is.length:Int)))
       (((0:Int)<=x4/\x4<(is.length:Int))/\
       af (!(P9 is x4))
        (Qe (x4+1)/\
        QD ((x4+1),out))
        (aO (σ:=Bool×Int×Q3) (true,0,(⟨0,0⟩:Q3)) λ⟨Wv,x5,x6⟩ Ro=>
         af (decide (x5<(events.length:Int)))
          (((0:Int)<=x5/\x5<(events.length:Int))/\
          dJ x4 x5 x1 λd=>
          af (d==2)
           (Qe (x5+1)/\
           Ro (Wv,(x5+1),x6))
           (bV (α:=Bool) (λT4=>
            af Wv
             (Qe (2-d)/\
             ((0:Int)<=x5/\x5<(x1.length:Int))/\
             Qe ((2-d)*(P9 x1 x5))/\
             Qe (x4+((2-d)*(P9 x1 x5)))/\
             ((0:Int)<=(x4+((2-d)*(P9 x1 x5)))/\(x4+((2-d)*(P9 x1 x5)))<(is.length:Int))/\
             T4 (!(P9 is (x4+((2-d)*(P9 x1 x5))))))
             (T4 false))
            λWh=>
            af (d==1)
             ((((0:Int)<=(P9 events x5)/\(P9 events x5)<=64)/\Qe (1*2^(toNat (P9 events x5))))/\
             Qe (x5+1)/\
             Ro (Wh,(x5+1),(⟨(bits .or .i64 x6.H (1*2^(toNat (P9 events x5)))),x6.No⟩:Q3)))
             ((((0:Int)<=(P9 events x5)/\(P9 events x5)<=64)/\Qe (1*2^(toNat (P9 events x5))))/\
             Qe (x5+1)/\
             Ro (Wh,(x5+1),(⟨x6.H,(bits .or .i64 x6.No (1*2^(toNat (P9 events x5))))⟩:Q3)))))
          (af Wv
           (((out++[x6]).length*16<=140737488355328)/\
           Qe (x4+1)/\
           QD ((x4+1),(out++[x6])))
           (Qe (x4+1)/\
           QD ((x4+1),out)))))
       (af (decide (1024<(out.length:Int)))
        (Q [] (some 4))
        (fW out λRe=>
        Re.length=out.length/\
        Q Re none))))
def jN(f:GFormula)(Q:List Q3->Option Int->Prop):Prop:=
 ju f λo r=>
 MR o
  (af (isSome r)
   (Q [] r)
   (False))
  λ⟨events,Q1⟩=>
  af (isSome r)
   (Q [] r)
   (ez events Q1 λr1 r2=>
   Q r1 r2)
def qe(Q:GFormula->Prop):Prop:=Q (⟨3,[(⟨4,2,[0,1,2]⟩:QN)],3⟩:GFormula)
def je(Q:Bool->Prop):Prop:=
 qe λr=>
 fA r λr1 r2=>
 qe λr3=>
 eA r3 λr4 r5=>
 af (isNone r2)
  (af (isNone r5)
   (bw r1 [3,5,6] λr6=>
   af r6
    (bw r4 [3,5,6] λr7=>
    Q r7)
    (Q false))
   (Q false))
  (Q false)
def qX(f:GFormula)(Q:Bool->Prop):Prop:=aO (σ:=Int×Int) (0,0) λ⟨n,x⟩ Qc=>
  af (decide (x<(f.N.length:Int)))
   (((0:Int)<=x/\x<(f.N.length:Int))/\
   Qe (n+(((P9 f.N x).Z).length:Int))/\
   Qe (x+1)/\
   Qc ((n+(((P9 f.N x).Z).length:Int)),(x+1)))
   (af (decide (8<f.Y))
    (Q true)
    (af (decide (16<(f.N.length:Int)))
     (Q true)
     (Q (decide (60<n)))))
def oO(f:GFormula)(Q:Bool->Prop):Prop:=
 qX f λr=>
 af (!r)
  (pk f λr1=>
  Q (r1==0))
  (Q false)
def fq(e:Option Int)(Q:Bool->Prop):Prop:=
 cS e 4 λr=>
 Q r
def mJ(f:GFormula)(Q:Bool->Prop):Prop:=bV (α:=Bool) (λRo=>
  je λr28=>
  af (!r28)
   (Ro true)
   (oO f λr29=>
   Ro (!r29)))
  λx=>
  af x
   (je λr=>
   Q r)
   (ly f λr1 r2=>
   fA f λr3 r4=>
   eZ f λr5 r6=>
   jR f r1 λr7 r8=>
   eA f λr9 SP=>
   cJ f λXf XH=>
   af (isSome r2)
    (Q false)
    (af (isSome XH)
     (Q false)
     (af (!Xf)
      (cS r4 7 λYy=>
      af Yy
       (cS r6 7 λXe=>
       af Xe
        (cS r8 7 λZP=>
        af ZP
         (cS SP 7 λZO=>
         Q ZO)
         (Q false))
        (Q false))
       (Q false))
      (aO (σ:=Int) 0 λx1 Qc=>
       af (decide (x1<([r4,r6,r8,SP].length:Int)))
        (((0:Int)<=x1/\x1<([r4,r6,r8,SP].length:Int))/\
        af (isSome (P9 [r4,r6,r8,SP] x1))
         (fq (P9 [r4,r6,r8,SP] x1) λZM=>
         af (!ZM)
          (Q false)
          (Qe (x1+1)/\
          Qc (x1+1)))
         (Qe (x1+1)/\
         Qc (x1+1)))
        (af (isSome r8)
         (Q true)
         (bV (α:=Unit) (λQD=>
          af (isNone r4)
           (bw r3 r7 λZG=>
           af (!ZG)
            (Q false)
            (af (isNone r6)
             (bw r5 r7 λZF=>
             af (!ZF)
              (Q false)
              (QD ()))
             (QD ())))
           (af (isNone r6)
            (bw r5 r7 λZD=>
            af (!ZD)
             (Q false)
             (QD ()))
            (QD ())))
          λ_=>
          bV (α:=Unit) (λnext3=>
           af (isNone SP)
            (ii r9 λXd U3=>
            af (isSome U3)
             (fq U3 λZK=>
             af (!ZK)
              (Q false)
              (af (isNone U3)
               (bw Xd r7 λZJ=>
               af (!ZJ)
                (Q false)
                (next3 ()))
               (next3 ())))
             (af (isNone U3)
              (bw Xd r7 λZH=>
              af (!ZH)
               (Q false)
               (next3 ()))
              (next3 ())))
            (next3 ()))
           λ_=>
           jN f λT3 ZL=>
           af (isSome ZL)
            (Q false)
            (af ((T3.length:Int) != (r7.length:Int))
             (Q false)
             (aO (σ:=Int) 0 λx2 Qd=>
              af (decide (x2<(T3.length:Int)))
               (((0:Int)<=x2/\x2<(T3.length:Int))/\
               af ((P9 T3 x2).No != 0)
                (Q false)
                (((0:Int)<=x2/\x2<(r7.length:Int))/\
                af ((P9 T3 x2).H != (P9 r7 x2))
                 (Q false)
                 (Qe (x2+1)/\
                 Qd (x2+1))))
               (Q true)))))))))
end Go.Gg
