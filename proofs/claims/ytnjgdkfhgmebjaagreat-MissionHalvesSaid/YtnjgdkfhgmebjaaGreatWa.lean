/- The structures of the program and how they are encoded. Conditions: none. -/
import Derived.Test.YtnjgdkfhgmebjaaGreatGc
import Derived.Test.YtnjgdkfhgmebjaaGreatGf
import Derived.Test.YtnjgdkfhgmebjaaGreatGd
open Int (tdiv tmod toNat)
open Go.IntKind (wrap)
open Option (getD isNone isSome)
namespace Go.Gg
structure GNode where
 D:Int
 K:Int
 M:List Int
instance:Inhabited GNode:=⟨⟨0,0,[]⟩⟩
def bb (r:GNode):AV:=.agg [.int .i64 r.D,.int .i64 r.K,eL (AV.int .i64) r.M]
structure GFormula where
 A:Int
 V:List GNode
 F:Int
instance:Inhabited GFormula:=⟨⟨0,[],0⟩⟩
def an (r:GFormula):AV:=.agg [.int .i64 r.A,eL bb r.V,.int .i64 r.F]
structure GRat where
 Y:Bool
 J:List Int
 L:List Int
instance:Inhabited GRat:=⟨⟨false,[],[]⟩⟩
def am (r:GRat):AV:=.agg [.bool r.Y,eL (AV.int .u32) r.J,eL (AV.int .u32) r.L]
structure GCauseGroup where
 D:Int
 T:List Int
 G:List GRat
instance:Inhabited GCauseGroup:=⟨⟨0,[],[]⟩⟩
structure GCauses where
 P:List GRat
 I:List GCauseGroup
instance:Inhabited GCauses:=⟨⟨[],[]⟩⟩
structure GMission where
 N:List GFormula
 P:List (List GRat)
instance:Inhabited GMission:=⟨⟨[],[]⟩⟩
def aB (r:GMission):AV:=.agg [eL an r.N,eL (eL am) r.P]
structure GCube where
 U:Int
 No:Int
instance:Inhabited GCube:=⟨⟨0,0⟩⟩
structure Gcause where
 p:GRat
 members:List Int
instance:Inhabited Gcause:=⟨⟨default,[]⟩⟩
structure GDNode where
 H:Int
 W:Int
 X:Int
instance:Inhabited GDNode:=⟨⟨0,0,0⟩⟩
def aX (r:GDNode):AV:=.agg [.int .i64 r.H,.int .i64 r.W,.int .i64 r.X]
structure GDiagram where
 Order:List Int
 V:List GDNode
 Z:Int
instance:Inhabited GDiagram:=⟨⟨[],[],0⟩⟩
def fT (r:GDiagram):AV:=.agg [eL (AV.int .i64) r.Order,eL aX r.V,.int .i64 r.Z]
structure GZero where
 V:List GDNode
 Z:Int
instance:Inhabited GZero:=⟨⟨[],0⟩⟩
structure Gtable where
 events:List Int
 true:List Bool
instance:Inhabited Gtable:=⟨⟨[],[]⟩⟩
structure Gwalk where
 Formula:GFormula
 events:List Int
 seen:List Bool
instance:Inhabited Gwalk:=⟨⟨default,[],[]⟩⟩
structure GsetsKey where
 op:Int
 a:Int
 b:Int
instance:Inhabited GsetsKey:=⟨⟨0,0,0⟩⟩
def ie:ByteArray:=⟨#[0,1,2,2,3,3,3,3,4,4,4,4,4,4,4,4,5,5,5,5,5,5,5,5,5,5,5,5,5,5,5,5,6,6,6,6,6,6,6,6,6,6,6,6,6,6,6,6,6,6,6,6,6,6,6,6,6,6,6,6,6,6,6,6,7,7,7,7,7,7,7,7,7,7,7,7,7,7,7,7,7,7,7,7,7,7,7,7,7,7,7,7,7,7,7,7,7,7,7,7,7,7,7,7,7,7,7,7,7,7,7,7,7,7,7,7,7,7,7,7,7,7,7,7,7,7,7,7,8,8,8,8,8,8,8,8,8,8,8,8,8,8,8,8,8,8,8,8,8,8,8,8,8,8,8,8,8,8,8,8,8,8,8,8,8,8,8,8,8,8,8,8,8,8,8,8,8,8,8,8,8,8,8,8,8,8,8,8,8,8,8,8,8,8,8,8,8,8,8,8,8,8,8,8,8,8,8,8,8,8,8,8,8,8,8,8,8,8,8,8,8,8,8,8,8,8,8,8,8,8,8,8,8,8,8,8,8,8,8,8,8,8,8,8,8,8,8,8,8,8,8,8,8,8,8,8]⟩
def b7 (a:List Int) (Q:List Int->Prop):Prop:=
 df (α:=Int) (λnext1=>
  bo (σ:=Int) (a.length:Int) λn1 next2=>
   aq (decide (0<n1))
    (rng (n1-1)/\
    ((0:Int)<=(n1-1)/\(n1-1)<(a.length:Int))/\
    aq ((at' a (n1-1)) == 0)
     (rng (n1-1)/\
     next2 (n1-1))
     (next1 n1))
    (next1 n1))
  λn=>
  aq (n == 0)
   (Q [])
   (((0:Int)<=0/\0<=n/\n<=(a.length:Int))/\
   ((([]:List Int)++(bf a 0 n)).length*4<=140737488355328)/\
   Q (([]:List Int)++(bf a 0 n)))
def dV (a:List Int) (b:List Int) (Q:Int->Prop):Prop:=
 b7 a λa1=>
 b7 b λb1=>
 aq ((a1.length:Int) != (b1.length:Int))
  (aq (decide ((a1.length:Int)<(b1.length:Int)))
   (Q (-1))
   (Q 1))
  (rng ((a1.length:Int)-1)/\
  bo (σ:=Int) ((a1.length:Int)-1) λi next1=>
   aq (decide (0<=i))
    (((0:Int)<=i/\i<(a1.length:Int))/\
    ((0:Int)<=i/\i<(b1.length:Int))/\
    aq (decide ((at' a1 i)<(at' b1 i)))
     (Q (-1))
     (((0:Int)<=i/\i<(a1.length:Int))/\
     ((0:Int)<=i/\i<(b1.length:Int))/\
     aq (decide ((at' b1 i)<(at' a1 i)))
      (Q 1)
      (rng (i-1)/\
      next1 (i-1))))
    (Q 0))
def lw (n:Int) (Q:List Int->Prop):Prop:=
 aq (decide (n<=0))
  (Q [])
  (b7 [(wrap .u32 n),(wrap .u32 (n / 2^(toNat 32)))] λr=>
  Q r)
def iO (a:List Int) (b:Int) (Q:List Int->Int->Prop):Prop:=
 lx 4 (a.length:Int) (a.length:Int)/\
 rng ((a.length:Int)-1)/\
 bo (σ:=Int×Int×(List Int)) (0,((a.length:Int)-1),(bS (a.length:Int) 0)) λ⟨rest,i,out⟩ next1=>
  aq (decide (0<=i))
   (((0:Int)<=i/\i<(a.length:Int))/\
   lj (bits .or .u64 (wrap .u64 (rest*2^(toNat 32))) (wrap .u64 (at' a i))) λrest1=>
   (wrap .u64 b)≠0/\
   ((0:Int)<=i/\i<(out.length:Int))/\
   (wrap .u64 b)≠0/\
   rng (i-1)/\
   next1 ((tmod rest1 (wrap .u64 b)),(i-1),(bu out i (wrap .u32 (wrap .u64 (tdiv rest1 (wrap .u64 b)))))))
   (b7 out λr=>
   Q r (wrap .u32 rest))
def gM (x:Int) (Q:Int->Prop):Prop:=
 df (α:=Int×Int) (λnext2=>
  aq (decide (65536<=x))
   (next2 ((x / 2^(toNat 16)),16))
   (next2 (x,0)))
  λ⟨x1,n⟩=>
  df (α:=Int×Int) (λnext1=>
   aq (decide (256<=x1))
    (rng (n+8)/\
    next1 ((x1 / 2^(toNat 8)),(n+8)))
    (next1 (x1,n)))
   λ⟨x2,n1⟩=>
   ((0:Int)<=(wrap .u8 x2)/\(wrap .u8 x2)<(ie.size:Int))/\
   rng (n1+(wrap .i64 (qz ie (toNat (wrap .u8 x2)))))/\
   lj (n1+(wrap .i64 (qz ie (toNat (wrap .u8 x2))))) λn2=>
   Q n2
def e8 (x:Int) (Q:Int->Prop):Prop:=
 gM x λr=>
 rng (32-r)/\
 Q (32-r)
def e7 (a:List Int) (n:Int) (Q:List Int->Prop):Prop:=
 rng ((a.length:Int)+1)/\
 lx 4 ((a.length:Int)+1) ((a.length:Int)+1)/\
 bo (σ:=Int×(List Int)) (0,(bS ((a.length:Int)+1) 0)) λ⟨x,out⟩ next1=>
  aq (decide (x<(a.length:Int)))
   (((0:Int)<=x/\x<(a.length:Int))/\
   ((0:Int)<=n/\n<=64)/\
   lj (wrap .u64 ((wrap .u64 (at' a x))*2^(toNat n))) λy1=>
   ((0:Int)<=x/\x<(out.length:Int))/\
   ((0:Int)<=x/\x<(out.length:Int))/\
   rng (x+1)/\
   ((0:Int)<=(x+1)/\(x+1)<(out.length:Int))/\
   rng (x+1)/\
   next1 ((x+1),(bu (bu out x (bits .or .u32 (at' out x) (wrap .u32 y1))) (x+1) (wrap .u32 (y1 / 2^(toNat 32))))))
   (Q out)
def cX (a:List Int) (i:Int) (Q:Int->Prop):Prop:=
 aq (decide (i<(a.length:Int)))
  (((0:Int)<=i/\i<(a.length:Int))/\
  Q (wrap .u64 (at' a i)))
  (Q 0)
def l8 (u:List Int) (uo:Nat) (ul:Nat) (v:List Int) (n:Int) (Q:List Int->Bool->Prop):Prop:=
 bo (σ:=Int×Int×Int×(List Int)) (0,0,0,u) λ⟨carry,borrow,x,u1⟩ next1=>
  aq (decide (x<(ul:Int)))
   (cX v x λr=>
   lj (wrap .u64 (carry+(wrap .u64 (n*r)))) λcarry1=>
   ((0:Int)<=x/\x<(ul:Int))/\
   (toNat ((uo:Int)+x))<u1.length/\
   lj (wrap .u64 ((wrap .u64 ((wrap .u64 (at' u1 ((uo:Int)+x)))-(wrap .u64 (wrap .u32 carry1))))-borrow)) λd=>
   ((0:Int)<=x/\x<(ul:Int))/\
   (toNat ((uo:Int)+x))<u1.length/\
   rng (x+1)/\
   next1 ((carry1 / 2^(toNat 32)),(d / 2^(toNat 63)),(x+1),(bu u1 ((uo:Int)+x) (wrap .u32 d))))
   (Q u1 (borrow == 1))
def l9 (u:List Int) (uo:Nat) (ul:Nat) (v:List Int) (Q:List Int->Prop):Prop:=
 bo (σ:=Int×Int×(List Int)) (0,0,u) λ⟨carry,x,u1⟩ next1=>
  aq (decide (x<(ul:Int)))
   (((0:Int)<=x/\x<(ul:Int))/\
   (toNat ((uo:Int)+x))<u1.length/\
   dr (cX v x) λr=>
   ((0:Int)<=x/\x<(ul:Int))/\
   (toNat ((uo:Int)+x))<u1.length/\
   lj ((wrap .u64 (carry+(wrap .u64 ((wrap .u64 (at' u1 ((uo:Int)+x)))+r)))) / 2^(toNat 32)) λcarry1=>
   rng (x+1)/\
   next1 (carry1,(x+1),(bu u1 ((uo:Int)+x) (wrap .u32 (wrap .u64 (carry+(wrap .u64 ((wrap .u64 (at' u1 ((uo:Int)+x)))+r))))))))
   (Q u1)
def iP (a:List Int) (n:Int) (Q:List Int->Prop):Prop:=
 lx 4 (a.length:Int) (a.length:Int)/\
 bo (σ:=Int×(List Int)) (0,(bS (a.length:Int) 0)) λ⟨x,out⟩ next1=>
  aq (decide (x<(a.length:Int)))
   (cX a x λr=>
   rng (x+1)/\
   cX a (x+1) λr1=>
   ((0:Int)<=n/\n<=64)/\
   ((0:Int)<=x/\x<(out.length:Int))/\
   rng (x+1)/\
   next1 ((x+1),(bu out x (wrap .u32 ((bits .or .u64 r (wrap .u64 (r1*2^(toNat 32)))) / 2^(toNat n))))))
   (Q out)
def iJ (a:List Int) (b:List Int) (Q:List Int->List Int->Option Int->Prop):Prop:=
 b7 a λa1=>
 b7 b λb1=>
 aq ((b1.length:Int) == 0)
  (Q [] [] (some 8))
  (dV a1 b1 λr=>
  aq (decide (r<0))
   (Q [] a1 none)
   (aq ((b1.length:Int) == 1)
    (((0:Int)<=0/\0<(b1.length:Int))/\
    iO a1 (at' b1 0) λr1 r2=>
    lw (wrap .i64 r2) λr3=>
    Q r1 r3 none)
    (rng ((b1.length:Int)-1)/\
    ((0:Int)<=((b1.length:Int)-1)/\((b1.length:Int)-1)<(b1.length:Int))/\
    e8 (at' b1 ((b1.length:Int)-1)) λn=>
    e7 b1 n λr4=>
    ((0:Int)<=0/\0<=(b1.length:Int)/\(b1.length:Int)<=(r4.length:Int))/\
    lj (bf r4 0 (b1.length:Int)) λv=>
    e7 a1 n λu=>
    rng ((v.length:Int)-1)/\
    ((0:Int)<=((v.length:Int)-1)/\((v.length:Int)-1)<(v.length:Int))/\
    rng ((v.length:Int)-2)/\
    ((0:Int)<=((v.length:Int)-2)/\((v.length:Int)-2)<(v.length:Int))/\
    rng ((u.length:Int)-(v.length:Int))/\
    lx 4 ((u.length:Int)-(v.length:Int)) ((u.length:Int)-(v.length:Int))/\
    rng (((toNat ((u.length:Int)-(v.length:Int))):Int)-1)/\
    lj (((toNat ((u.length:Int)-(v.length:Int))):Int)-1) λj=>
    bo (σ:=Int×(List Int)×(List Int)) (j,u,(bS ((u.length:Int)-(v.length:Int)) 0)) λ⟨j1,u1,q⟩ next1=>
     aq (decide (0<=j1))
      (rng (j1+(v.length:Int))/\
      ((0:Int)<=(j1+(v.length:Int))/\(j1+(v.length:Int))<(u1.length:Int))/\
      rng (j1+(v.length:Int))/\
      rng ((j1+(v.length:Int))-1)/\
      ((0:Int)<=((j1+(v.length:Int))-1)/\((j1+(v.length:Int))-1)<(u1.length:Int))/\
      (wrap .u64 (at' v ((v.length:Int)-1)))≠0/\
      (wrap .u64 (at' v ((v.length:Int)-1)))≠0/\
      df (α:=Int) (λnext3=>
       bo (σ:=Int×Int) ((wrap .u64 (tdiv (bits .or .u64 (wrap .u64 ((wrap .u64 (at' u1 (j1+(v.length:Int))))*2^(toNat 32))) (wrap .u64 (at' u1 ((j1+(v.length:Int))-1)))) (wrap .u64 (at' v ((v.length:Int)-1))))),(tmod (bits .or .u64 (wrap .u64 ((wrap .u64 (at' u1 (j1+(v.length:Int))))*2^(toNat 32))) (wrap .u64 (at' u1 ((j1+(v.length:Int))-1)))) (wrap .u64 (at' v ((v.length:Int)-1))))) λ⟨guess2,rest⟩ next4=>
        df (α:=Unit) (λnext5=>
         aq (decide (4294967296<=guess2))
          (next5 ())
          (rng (j1+(v.length:Int))/\
          rng ((j1+(v.length:Int))-2)/\
          ((0:Int)<=((j1+(v.length:Int))-2)/\((j1+(v.length:Int))-2)<(u1.length:Int))/\
          aq (decide ((bits .or .u64 (wrap .u64 (rest*2^(toNat 32))) (wrap .u64 (at' u1 ((j1+(v.length:Int))-2))))<(wrap .u64 (guess2*(wrap .u64 (at' v ((v.length:Int)-2)))))))
           (next5 ())
           (next3 guess2)))
         λ_=>
         lj (wrap .u64 (rest+(wrap .u64 (at' v ((v.length:Int)-1))))) λrest1=>
         aq (decide (4294967296<=rest1))
          (next3 (wrap .u64 (guess2-1)))
          (next4 ((wrap .u64 (guess2-1)),rest1)))
       λguess=>
       df (α:=Int×(List Int)) (λnext2=>
        rng (j1+(v.length:Int))/\
        rng ((j1+(v.length:Int))+1)/\
        ((0:Int)<=j1/\j1<=((j1+(v.length:Int))+1)/\((j1+(v.length:Int))+1)<=(u1.length:Int))/\
        l8 u1 (0+toNat j1) (toNat ((j1+(v.length:Int))+1)-toNat j1) v guess λu3 r5=>
        u3.length=u1.length/\
        aq r5
         (rng (j1+(v.length:Int))/\
         rng ((j1+(v.length:Int))+1)/\
         ((0:Int)<=j1/\j1<=((j1+(v.length:Int))+1)/\((j1+(v.length:Int))+1)<=(u1.length:Int))/\
         l9 u3 (0+toNat j1) (toNat ((j1+(v.length:Int))+1)-toNat j1) v λu4=>
         u4.length=u3.length/\
         next2 ((wrap .u64 (guess-1)),u4))
         (next2 (guess,u3)))
        λ⟨guess1,u2⟩=>
        ((0:Int)<=j1/\j1<(q.length:Int))/\
        rng (j1-1)/\
        next1 ((j1-1),u2,(bu q j1 (wrap .u32 guess1))))
      (b7 q λq1=>
      iP u1 n λr6=>
      b7 r6 λr7=>
      Q q1 r7 none))))
def j6 (a:List Int) (b:List Int) (Q:List Int->Prop):Prop:=
 b7 a λa1=>
 b7 b λb1=>
 bo (σ:=(List Int)×(List Int)) (a1,b1) λ⟨a2,b2⟩ next1=>
  aq (decide (0<(b2.length:Int)))
   (iJ a2 b2 λ_ r1 _=>
   next1 (b2,r1))
   (Q a2)
def dj (a:List Int) (b:List Int) (Q:List Int->Prop):Prop:=
 rng ((a.length:Int)+(b.length:Int))/\
 lx 4 ((a.length:Int)+(b.length:Int)) ((a.length:Int)+(b.length:Int))/\
 bo (σ:=Int×(List Int)) (0,(bS ((a.length:Int)+(b.length:Int)) 0)) λ⟨x,out⟩ next1=>
  aq (decide (x<(a.length:Int)))
   (((0:Int)<=x/\x<(a.length:Int))/\
   bo (σ:=Int×Int×(List Int)) (0,0,out) λ⟨carry,x1,out1⟩ next2=>
    aq (decide (x1<(b.length:Int)))
     (((0:Int)<=x1/\x1<(b.length:Int))/\
     rng (x+x1)/\
     ((0:Int)<=(x+x1)/\(x+x1)<(out1.length:Int))/\
     lj (wrap .u64 (carry+(wrap .u64 ((wrap .u64 ((wrap .u64 (at' a x))*(wrap .u64 (at' b x1))))+(wrap .u64 (at' out1 (x+x1))))))) λcarry1=>
     rng (x+x1)/\
     ((0:Int)<=(x+x1)/\(x+x1)<(out1.length:Int))/\
     rng (x1+1)/\
     next2 ((carry1 / 2^(toNat 32)),(x1+1),(bu out1 (x+x1) (wrap .u32 carry1))))
     (rng (x+(b.length:Int))/\
     ((0:Int)<=(x+(b.length:Int))/\(x+(b.length:Int))<(out1.length:Int))/\
     rng (x+1)/\
     next1 ((x+1),(bu out1 (x+(b.length:Int)) (wrap .u32 carry)))))
   (b7 out λr=>
   Q r)
def l_ (a:List Int) (Q:Int->Prop):Prop:=
 rng ((a.length:Int)-1)/\
 bo (σ:=Int) ((a.length:Int)-1) λi next1=>
  aq (decide (0<=i))
   (((0:Int)<=i/\i<(a.length:Int))/\
   aq ((at' a i) != 0)
    (rng (32*i)/\
    ((0:Int)<=i/\i<(a.length:Int))/\
    gM (at' a i) λr=>
    rng ((32*i)+r)/\
    Q ((32*i)+r))
    (rng (i-1)/\
    next1 (i-1)))
   (Q 0)
def j7 (a:List Int) (b:List Int) (Q:List Int->Prop):Prop:=
 rng ((max (a.length:Int) (b.length:Int))+1)/\
 lx 4 ((max (a.length:Int) (b.length:Int))+1) ((max (a.length:Int) (b.length:Int))+1)/\
 bo (σ:=Int×Int×(List Int)) (0,0,(bS ((max (a.length:Int) (b.length:Int))+1) 0)) λ⟨carry,x,out⟩ next1=>
  aq (decide (x<((toNat ((max (a.length:Int) (b.length:Int))+1)):Int)))
   (cX a x λr=>
   cX b x λr1=>
   lj (wrap .u64 (carry+(wrap .u64 (r+r1)))) λcarry1=>
   ((0:Int)<=x/\x<(out.length:Int))/\
   rng (x+1)/\
   next1 ((carry1 / 2^(toNat 32)),(x+1),(bu out x (wrap .u32 carry1))))
   (b7 out λr2=>
   Q r2)
def j5 (a:List Int) (b:List Int) (Q:List Int->Option Int->Prop):Prop:=
 dV a b λr=>
 aq (decide (r<0))
  (Q [] (some 3))
  (lx 4 (a.length:Int) (a.length:Int)/\
  bo (σ:=Int×Int×(List Int)) (0,0,(bS (a.length:Int) 0)) λ⟨borrow,x,out⟩ next1=>
   aq (decide (x<((toNat (a.length:Int)):Int)))
    (cX a x λr1=>
    cX b x λr2=>
    lj (wrap .u64 ((wrap .u64 (r1-r2))-borrow)) λd=>
    ((0:Int)<=x/\x<(out.length:Int))/\
    rng (x+1)/\
    next1 ((d / 2^(toNat 63)),(x+1),(bu out x (wrap .u32 d))))
    (b7 out λr3=>
    Q r3 none))
def jp (a:List Int) (Q:Int->Prop):Prop:=
 bo (σ:=Int×Int) (0,0) λ⟨n,x⟩ next1=>
  aq (decide (x<(a.length:Int)))
   (((0:Int)<=x/\x<(a.length:Int))/\
   bo (σ:=Int×Int) (n,0) λ⟨n1,x1⟩ next2=>
    aq (decide (x1<32))
     (((0:Int)<=x1/\x1<=32)/\
     aq ((bits .and .u32 ((at' a x) / 2^(toNat x1)) 1) == 1)
      (rng (32*x)/\
      rng ((32*x)+x1)/\
      rng (((32*x)+x1)+1)/\
      rng (x1+1)/\
      next2 ((((32*x)+x1)+1),(x1+1)))
      (rng (x1+1)/\
      next2 (n1,(x1+1))))
     (rng (x+1)/\
     next1 (n1,(x+1))))
   (Q n)
def c5 (a:List Int) (Q:List Int->Prop):Prop:=
 df (α:=Int) (λnext1=>
  bo (σ:=Int) (a.length:Int) λn1 next2=>
   aq (decide (0<n1))
    (rng (n1-1)/\
    ((0:Int)<=(n1-1)/\(n1-1)<(a.length:Int))/\
    aq ((at' a (n1-1)) == 0)
     (rng (n1-1)/\
     next2 (n1-1))
     (next1 n1))
    (next1 n1))
  λn=>
  ((0:Int)<=0/\0<=n/\n<=(a.length:Int))/\
  ((([]:List Int)++(bf a 0 n)).length*4<=140737488355328)/\
  Q (([]:List Int)++(bf a 0 n))
def cp (a:List Int) (i:Int) (Q:Int->Prop):Prop:=
 aq (decide (i<(a.length:Int)))
  (((0:Int)<=i/\i<(a.length:Int))/\
  Q (wrap .u64 (at' a i)))
  (Q 0)
def d7 (a:List Int) (b:List Int) (Q:List Int->Prop):Prop:=
 rng ((a.length:Int)+(b.length:Int))/\
 rng (((a.length:Int)+(b.length:Int))+1)/\
 lx 4 (((a.length:Int)+(b.length:Int))+1) (((a.length:Int)+(b.length:Int))+1)/\
 bo (σ:=Int×(List Int)) (0,(bS (((a.length:Int)+(b.length:Int))+1) 0)) λ⟨x,out⟩ next1=>
  aq (decide (x<(a.length:Int)))
   (((0:Int)<=x/\x<(a.length:Int))/\
   rng ((b.length:Int)+1)/\
   bo (σ:=Int×Int×(List Int)) (0,0,out) λ⟨carry,x1,out1⟩ next2=>
    aq (decide (x1<((b.length:Int)+1)))
     (dr (cp b x1) λr=>
     rng (x+x1)/\
     ((0:Int)<=(x+x1)/\(x+x1)<(out1.length:Int))/\
     rng (x+x1)/\
     ((0:Int)<=(x+x1)/\(x+x1)<(out1.length:Int))/\
     lj ((wrap .u64 ((wrap .u64 ((wrap .u64 ((wrap .u64 (at' a x))*r))+(wrap .u64 (at' out1 (x+x1)))))+carry)) / 2^(toNat 32)) λcarry1=>
     rng (x1+1)/\
     next2 (carry1,(x1+1),(bu out1 (x+x1) (wrap .u32 (wrap .u64 ((wrap .u64 ((wrap .u64 ((wrap .u64 (at' a x))*r))+(wrap .u64 (at' out1 (x+x1)))))+carry))))))
     (rng (x+1)/\
     next1 ((x+1),out1)))
   (c5 out λr1=>
   Q r1)
def i6 (a:List Int) (b:List Int) (Q:Int->Prop):Prop:=
 rng ((max (a.length:Int) (b.length:Int))-1)/\
 lj ((max (a.length:Int) (b.length:Int))-1) λi=>
 bo (σ:=Int) i λi1 next1=>
  aq (decide (0<=i1))
   (cp a i1 λr=>
   cp b i1 λr1=>
   aq (decide (r<r1))
    (Q (-1))
    (cp a i1 λr2=>
    cp b i1 λr3=>
    aq (decide (r3<r2))
     (Q 1)
     (rng (i1-1)/\
     next1 (i1-1))))
   (Q 0)
def kq (a:List Int) (b:List Int) (Q:List Int->Int->Prop):Prop:=
 i6 a b λr=>
 aq (decide (r<0))
  (Q [] 3)
  (bo (σ:=Int×Int×(List Int)) (0,0,[]) λ⟨borrow,x,out⟩ next1=>
   aq (decide (x<(a.length:Int)))
    (cp a x λr1=>
    cp b x λr2=>
    lj (wrap .u64 ((wrap .u64 (r1-r2))-borrow)) λs=>
    ((out++[(wrap .u32 s)]).length*4<=140737488355328)/\
    rng (x+1)/\
    next1 ((s / 2^(toNat 63)),(x+1),(out++[(wrap .u32 s)])))
    (c5 out λr3=>
    Q r3 0))
def nQ (a:List Int) (s:Int) (Q:List Int->Prop):Prop:=
 bo (σ:=Int×Int×(List Int)) (0,0,[]) λ⟨carry,x,out⟩ next1=>
  aq (decide (x<(a.length:Int)))
   (((0:Int)<=x/\x<(a.length:Int))/\
   ((0:Int)<=s/\s<=64)/\
   lj (bits .or .u64 carry (wrap .u64 ((wrap .u64 (at' a x))*2^(toNat s)))) λcarry1=>
   ((out++[(wrap .u32 carry1)]).length*4<=140737488355328)/\
   rng (x+1)/\
   next1 ((carry1 / 2^(toNat 32)),(x+1),(out++[(wrap .u32 carry1)])))
   (((out++[(wrap .u32 carry)]).length*4<=140737488355328)/\
   c5 (out++[(wrap .u32 carry)]) λr=>
   Q r)
def ls (a:List Int) (s:Int) (Q:List Int->Prop):Prop:=
 bo (σ:=Int×(List Int)) (0,[]) λ⟨x,out⟩ next1=>
  aq (decide (x<(a.length:Int)))
   (cp a x λr=>
   rng (x+1)/\
   cp a (x+1) λr1=>
   ((0:Int)<=s/\s<=64)/\
   ((out++[(wrap .u32 ((bits .or .u64 r (wrap .u64 (r1*2^(toNat 32)))) / 2^(toNat s)))]).length*4<=140737488355328)/\
   rng (x+1)/\
   next1 ((x+1),(out++[(wrap .u32 ((bits .or .u64 r (wrap .u64 (r1*2^(toNat 32)))) / 2^(toNat s)))])))
   (c5 out λr2=>
   Q r2)
def kr (a:List Int) (b:List Int) (Q:List Int->List Int->Int->Prop):Prop:=
 c5 b λb1=>
 aq ((b1.length:Int) == 0)
  (Q [] [] 8)
  (bo (σ:=Int) 0 λs next1=>
   rng ((b1.length:Int)-1)/\
   ((0:Int)<=((b1.length:Int)-1)/\((b1.length:Int)-1)<(b1.length:Int))/\
   ((0:Int)<=s/\s<=32)/\
   aq ((bits .and .u32 (wrap .u32 ((at' b1 ((b1.length:Int)-1))*2^(toNat s))) 2147483648) == 0)
    (rng (s+1)/\
    next1 (s+1))
    (nQ a s λa1=>
    nQ b1 s λb2=>
    lx 4 (a1.length:Int) (a1.length:Int)/\
    rng ((a1.length:Int)-(b1.length:Int))/\
    rng (((a1.length:Int)-(b1.length:Int))+1)/\
    ((0:Int)<=(max 0 (((a1.length:Int)-(b1.length:Int))+1))/\(max 0 (((a1.length:Int)-(b1.length:Int))+1))<=(a1.length:Int)/\(a1.length:Int)<=(a1.length:Int))/\
    ((([]:List Int)++(bf a1 (max 0 (((a1.length:Int)-(b1.length:Int))+1)) (a1.length:Int))).length*4<=140737488355328)/\
    rng ((a1.length:Int)-(b1.length:Int))/\
    bo (σ:=(List Int)×Int×(List Int)) ((([]:List Int)++(bf a1 (max 0 (((a1.length:Int)-(b1.length:Int))+1)) (a1.length:Int))),((a1.length:Int)-(b1.length:Int)),(bS (a1.length:Int) 0)) λ⟨r,i,q⟩ next2=>
     aq (decide (0<=i))
      (((0:Int)<=i/\i<(a1.length:Int))/\
      (([(at' a1 i)]++r).length*4<=140737488355328)/\
      c5 ([(at' a1 i)]++r) λr1=>
      cp r1 (b1.length:Int) λr2=>
      rng ((b1.length:Int)-1)/\
      cp r1 ((b1.length:Int)-1) λr3=>
      rng ((b1.length:Int)-1)/\
      cp b2 ((b1.length:Int)-1) λr4=>
      r4≠0/\
      lj (min (wrap .u64 (tdiv (bits .or .u64 (wrap .u64 (r2*2^(toNat 32))) r3) r4)) 4294967295) λguess=>
      d7 b2 [(wrap .u32 guess)] λp=>
      bo (σ:=Int×(List Int)) (guess,p) λ⟨guess1,p1⟩ next3=>
       i6 p1 r1 λr5=>
       aq (decide (0<r5))
        (kq p1 b2 λr6 _=>
        next3 ((wrap .u64 (guess1-1)),r6))
        (kq r1 p1 λr8 _=>
        ((0:Int)<=i/\i<(q.length:Int))/\
        rng (i-1)/\
        next2 (r8,(i-1),(bu q i (wrap .u32 guess1)))))
      (c5 q λr10=>
      ls r s λr11=>
      Q r10 r11 0)))
def mD (a:List Int) (b:List Int) (Q:List Int->Prop):Prop:=
 c5 a λa1=>
 c5 b λb1=>
 bo (σ:=(List Int)×(List Int)) (a1,b1) λ⟨a2,b2⟩ next1=>
  aq (decide (0<(b2.length:Int)))
   (kr a2 b2 λ_ r1 _=>
   next1 (b2,r1))
   (Q a2)
def mF (a:List Int) (b:List Int) (Q:List Int->Prop):Prop:=
 rng ((max (a.length:Int) (b.length:Int))+1)/\
 bo (σ:=Int×Int×(List Int)) (0,0,[]) λ⟨carry,x,out⟩ next1=>
  aq (decide (x<((max (a.length:Int) (b.length:Int))+1)))
   (cp a x λr=>
   cp b x λr1=>
   lj (wrap .u64 ((wrap .u64 (r+r1))+carry)) λs=>
   ((out++[(wrap .u32 s)]).length*4<=140737488355328)/\
   rng (x+1)/\
   next1 ((s / 2^(toNat 32)),(x+1),(out++[(wrap .u32 s)])))
   (c5 out λr2=>
   Q r2)
def lG (a:List Int) (b:List Int) (Q:Bool->Prop):Prop:=
 aq ((a.length:Int) != (b.length:Int))
  (Q false)
  (bo (σ:=Int) 0 λx next1=>
   aq (decide (x<(a.length:Int)))
    (((0:Int)<=x/\x<(a.length:Int))/\
    ((0:Int)<=x/\x<(b.length:Int))/\
    aq ((at' a x) != (at' b x))
     (Q false)
     (rng (x+1)/\
     next1 (x+1)))
    (Q true))
def n8 (a:GRat) (b:GRat) (Q:Bool->Prop):Prop:=
 aq (a.Y == b.Y)
  (lG a.J b.J λr=>
  aq r
   (lG a.L b.L λr1=>
   Q r1)
   (Q false))
  (Q false)
def kE (a:List GRat) (b:List GRat) (Q:Bool->Prop):Prop:=
 aq ((a.length:Int) != (b.length:Int))
  (Q false)
  (bo (σ:=Int) 0 λx next1=>
   aq (decide (x<(a.length:Int)))
    (((0:Int)<=x/\x<(a.length:Int))/\
    ((0:Int)<=x/\x<(b.length:Int))/\
    dr (n8 (at' a x) (at' b x)) λr=>
    aq (!r)
     (Q false)
     (rng (x+1)/\
     next1 (x+1)))
    (Q true))
def jq (Q:List Int->Prop):Prop:=
 Q [1]
def ij (a:List Int) (Q:Bool->Prop):Prop:=
 aq (decide (0<(a.length:Int)))
  (rng ((a.length:Int)-1)/\
  ((0:Int)<=((a.length:Int)-1)/\((a.length:Int)-1)<(a.length:Int))/\
  Q ((at' a ((a.length:Int)-1)) != 0))
  (Q false)
def ik (a:GRat) (Q:Bool->Prop):Prop:=
 df (α:=Bool) (λnext1=>
  aq ((a.J.length:Int) == 0)
   (next1 ((a.L.length:Int) == 0))
   (next1 false))
  λx=>
  aq x
   (Q (!a.Y))
   (ij a.J λr=>
   aq r
    (ij a.L λr1=>
    aq r1
     (j6 a.J a.L λr2=>
     jq λr3=>
     dV r2 r3 λr4=>
     Q (r4 == 0))
     (Q false))
    (Q false))
def cR (a:GRat) (Q:Bool->List Int->List Int->Prop):Prop:=
 df (α:=Bool) (λnext1=>
  ik a λr1=>
  aq (!r1)
   (next1 true)
   (next1 ((a.J.length:Int) == 0)))
  λx=>
  aq x
   (jq λr=>
   Q false [] r)
   (Q a.Y a.J a.L)
def cN (neg:Bool) (num:List Int) (den:List Int) (Q:GRat->Prop):Prop:=
 l_ num λr=>
 aq (r == 0)
  (Q (⟨false,[],[]⟩:GRat))
  (j6 num den λg2=>
  iJ num g2 λr1 _ _=>
  iJ den g2 λr4 _ _=>
  Q (⟨neg,r1,r4⟩:GRat))
def d9 (a:GRat) (b:GRat) (Q:GRat->Prop):Prop:=
 cR a λr r1 r2=>
 cR b λr3 r4 r5=>
 dj r1 r5 λp=>
 dj r4 r2 λq=>
 dj r2 r5 λden=>
 aq (r == r3)
  (j7 p q λr6=>
  cN r r6 den λr7=>
  Q r7)
  (dV p q λr8=>
  aq (decide (0<=r8))
   (j5 p q λr9 _=>
   cN r r9 den λr11=>
   Q r11)
   (j5 q p λr12 _=>
   cN r3 r12 den λr14=>
   Q r14))
def l5 (a:GRat) (Q:GRat->Prop):Prop:=
 cR a λr r1 r2=>
 cN (!r) r1 r2 λr3=>
 Q r3
def d8 (a:GRat) (b:GRat) (Q:GRat->Prop):Prop:=
 dr (l5 b) λr=>
 dr (d9 a r) λr1=>
 Q r1
def kH (n:Int) (Q:List Int->Prop):Prop:=
 aq (n == (-9223372036854775808))
  (Q [0,2147483648])
  (rng (-n)/\
  lw (max n (-n)) λr=>
  Q r)
def dU (n:Int) (Q:GRat->Prop):Prop:=
 kH n λr=>
 jq λr1=>
 cN (decide (n<0)) r r1 λr2=>
 Q r2
def dl (a:GRat) (b:GRat) (Q:GRat->Prop):Prop:=
 cR a λr r1 r2=>
 cR b λr3 r4 r5=>
 dj r1 r4 λr6=>
 dj r2 r5 λr7=>
 cN (r != r3) r6 r7 λr8=>
 Q r8
def gT (a:GRat) (b:GRat) (Q:GRat->Option Int->Prop):Prop:=
 cR a λr r1 r2=>
 cR b λr3 r4 r5=>
 aq ((r4.length:Int) == 0)
  (Q (⟨false,[],[]⟩:GRat) (some 8))
  (dj r1 r5 λr6=>
  dj r2 r4 λr7=>
  cN (r != r3) r6 r7 λr8=>
  Q r8 none)
def gr (a:GRat) (Q:Bool->Prop):Prop:=
 ik a λr=>
 aq r
  (aq (!a.Y)
   (dV a.J a.L λr1=>
   Q (decide (r1<=0)))
   (Q false))
  (Q false)
def eM (neg:Bool) (num:List Int) (den:List Int) (Q:GRat->Int->Prop):Prop:=
 jp den λr=>
 aq (r == 0)
  (Q (⟨false,[],[]⟩:GRat) 8)
  (jp num λr1=>
  aq (r1 == 0)
   (Q (⟨false,[],[]⟩:GRat) 0)
   (mD num den λg2=>
   kr num g2 λr2 _ _=>
   kr den g2 λr5 _ _=>
   Q (⟨neg,r2,r5⟩:GRat) 0))
def lk (n:Int) (Q:List Int->Prop):Prop:=
 df (α:=Int) (λnext1=>
  aq (decide (n<0))
   (lj (wrap .u64 (0-(wrap .u64 n))) λu1=>
   next1 u1)
   (next1 (wrap .u64 n)))
  λu=>
  Q [(wrap .u32 u),(wrap .u32 (u / 2^(toNat 32)))]
def lq (n:Int) (d:Int) (Q:GRat->Int->Prop):Prop:=
 lk n λr=>
 lk d λr1=>
 eM ((decide (n<0)) != (decide (d<0))) r r1 λr2 r3=>
 Q r2 r3
def jP (n:Int) (Q:GRat->Prop):Prop:=
 lq n 1 λr _=>
 Q r
def iH (a:GRat) (Q:Bool->Prop):Prop:=
 df (α:=Bool) (λnext1=>
  aq ((a.J.length:Int) == 0)
   (next1 true)
   (next1 ((a.L.length:Int) == 0)))
  λx=>
  aq x
   (aq ((a.J.length:Int) == 0)
    (aq ((a.L.length:Int) == 0)
     (Q (!a.Y))
     (Q false))
    (Q false))
   (rng ((a.J.length:Int)-1)/\
   ((0:Int)<=((a.J.length:Int)-1)/\((a.J.length:Int)-1)<(a.J.length:Int))/\
   aq ((at' a.J ((a.J.length:Int)-1)) != 0)
    (rng ((a.L.length:Int)-1)/\
    ((0:Int)<=((a.L.length:Int)-1)/\((a.L.length:Int)-1)<(a.L.length:Int))/\
    aq ((at' a.L ((a.L.length:Int)-1)) != 0)
     (mD a.J a.L λr=>
     jp r λr1=>
     Q (r1 == 1))
     (Q false))
    (Q false))
def di (a:GRat) (Q:Bool->List Int->List Int->Prop):Prop:=
 df (α:=Bool) (λnext1=>
  iH a λr=>
  aq (!r)
   (next1 true)
   (next1 ((a.J.length:Int) == 0)))
  λx=>
  aq x
   (Q false [] [1])
   (Q a.Y a.J a.L)
def ii (a:GRat) (Q:Int->Prop):Prop:=
 di a λr r1 _=>
 aq ((r1.length:Int) == 0)
  (Q 0)
  (aq r
   (Q (-1))
   (Q 1))
def oL (a:GRat) (b:GRat) (Q:GRat->Prop):Prop:=
 di a λr r1 r2=>
 di b λr3 r4 r5=>
 d7 r1 r5 λx=>
 d7 r4 r2 λy1=>
 d7 r2 r5 λden=>
 aq (r == r3)
  (mF x y1 λr6=>
  eM r r6 den λr7 _=>
  Q r7)
  (df (α:=Bool×(List Int)×(List Int)) (λnext1=>
   i6 x y1 λr13=>
   aq (decide (r13<0))
    (next1 (r3,y1,x))
    (next1 (r,x,y1)))
   λ⟨s,x1,y2⟩=>
   kq x1 y2 λr9 _=>
   eM s r9 den λr11 _=>
   Q r11)
def oJ (a:GRat) (Q:GRat->Prop):Prop:=
 di a λr r1 r2=>
 eM (!r) r1 r2 λr3 _=>
 Q r3
def gS (a:GRat) (b:GRat) (Q:GRat->Prop):Prop:=
 dr (oJ b) λr=>
 dr (oL a r) λr1=>
 Q r1
def i5 (a:GRat) (b:GRat) (Q:Int->Prop):Prop:=
 gS a b λr=>
 ii r λr1=>
 Q r1
def lm (a:GRat) (Q:Bool->Prop):Prop:=
 dr (iH a) λr=>
 aq r
  (dr (ii a) λr1=>
  aq (decide (0<=r1))
   (dr (jP 1) λr2=>
   dr (i5 a r2) λr3=>
   Q (decide (r3<=0)))
   (Q false))
  (Q false)
def ko (a:GRat) (b:GRat) (Q:GRat->Prop):Prop:=
 di a λr r1 r2=>
 di b λr3 r4 r5=>
 d7 r1 r4 λr6=>
 d7 r2 r5 λr7=>
 eM (r != r3) r6 r7 λr8 _=>
 Q r8
def kp (a:GRat) (b:GRat) (Q:GRat->Int->Prop):Prop:=
 di a λr r1 r2=>
 di b λr3 r4 r5=>
 d7 r1 r5 λr6=>
 d7 r2 r4 λr7=>
 eM (r != r3) r6 r7 λr8 r9=>
 Q r8 r9
def n9 (err:Option Int) (Q:Int->Prop):Prop:=
 aq (isNone err)
  (Q 0)
  (aq (isSome err)
   (Q (getD err 0))
   (Q (-1)))
def pb (a:List Int) (b:List Int) (Q:Bool->Prop):Prop:=
 aq ((a.length:Int) != (b.length:Int))
  (Q false)
  (bo (σ:=Int) 0 λx next1=>
   aq (decide (x<(a.length:Int)))
    (((0:Int)<=x/\x<(a.length:Int))/\
    ((0:Int)<=x/\x<(b.length:Int))/\
    aq ((at' a x) != (at' b x))
     (Q false)
     (rng (x+1)/\
     next1 (x+1)))
    (Q true))
def ml (a:GFormula) (b:GFormula) (Q:Bool->Prop):Prop:=
 aq (a.A != b.A)
  (Q false)
  (aq (a.F != b.F)
   (Q false)
   (aq ((a.V.length:Int) != (b.V.length:Int))
    (Q false)
    (bo (σ:=Int) 0 λx next1=>
     aq (decide (x<(a.V.length:Int)))
      (((0:Int)<=x/\x<(a.V.length:Int))/\
      ((0:Int)<=x/\x<(b.V.length:Int))/\
      aq ((at' a.V x).D != (at' b.V x).D)
       (Q false)
       (((0:Int)<=x/\x<(a.V.length:Int))/\
       ((0:Int)<=x/\x<(b.V.length:Int))/\
       aq ((at' a.V x).K != (at' b.V x).K)
        (Q false)
        (((0:Int)<=x/\x<(a.V.length:Int))/\
        ((0:Int)<=x/\x<(b.V.length:Int))/\
        dr (pb ((at' a.V x).M) ((at' b.V x).M)) λr=>
        aq (!r)
         (Q false)
         (rng (x+1)/\
         next1 (x+1)))))
      (Q true))))
def iB (kind:Int) (n:Int) (Q:Bool->Prop):Prop:=
 aq (kind == 0)
  (Q (n == 0))
  (aq (kind == 1)
   (Q (n == 1))
   (aq (decide (1<=n))
    (Q (decide (n<=16)))
    (Q false)))
def iA (f:GFormula) (i:Int) (Q:Option Int->Prop):Prop:=
 ((0:Int)<=i/\i<(f.V.length:Int))/\
 df (α:=Bool) (λnext5=>
  aq (decide ((at' f.V i).D<0))
   (next5 true)
   (next5 (decide (5<(at' f.V i).D))))
  λx=>
  aq x
   (Q (some 7))
   (iB ((at' f.V i).D) (((at' f.V i).M).length:Int) λr=>
   aq (!r)
    (Q (some 11))
    (bo (σ:=Int) 0 λx1 next1=>
     aq (decide (x1<(((at' f.V i).M).length:Int)))
      (((0:Int)<=x1/\x1<(((at' f.V i).M).length:Int))/\
      df (α:=Bool) (λnext2=>
       aq (decide ((at' ((at' f.V i).M) x1)<0))
        (next2 true)
        (rng (f.A+i)/\
        next2 (decide ((f.A+i)<=(at' ((at' f.V i).M) x1)))))
       λx2=>
       aq x2
        (Q (some 10))
        (rng (x1+1)/\
        next1 (x1+1)))
      (aq ((at' f.V i).D == 0)
       (df (α:=Bool) (λnext3=>
        aq ((at' f.V i).K != 0)
         (next3 ((at' f.V i).K != 1))
         (next3 false))
        λx3=>
        aq x3
         (Q (some 3))
         (Q none))
       (aq ((at' f.V i).D == 4)
        (df (α:=Bool) (λnext4=>
         aq (decide ((at' f.V i).K<1))
          (next4 true)
          (next4 (decide ((((at' f.V i).M).length:Int)<(at' f.V i).K))))
         λx4=>
         aq x4
          (Q (some 3))
          (Q none))
        (aq ((at' f.V i).K != 0)
         (Q (some 2))
         (Q none))))))
def kT (f:GFormula) (arg:Int) (Q:Bool->Prop):Prop:=
 aq (decide (0<=f.A))
  (aq (decide (0<=arg))
   (aq (decide (arg<f.A))
    (Q true)
    (rng (arg-f.A)/\
    Q (decide ((arg-f.A)<(f.V.length:Int)))))
   (Q false))
  (Q false)
def du (f:GFormula) (Q:Option Int->Prop):Prop:=
 df (α:=Bool) (λnext2=>
  aq (decide (f.A<0))
   (next2 true)
   (next2 (decide (24<f.A))))
  λx=>
  aq x
   (Q (some 3))
   (aq (decide (128<(f.V.length:Int)))
    (Q (some 4))
    (bo (σ:=Int) 0 λx1 next1=>
     aq (decide (x1<(f.V.length:Int)))
      (iA f x1 λe=>
      aq (isSome e)
       (Q e)
       (rng (x1+1)/\
       next1 (x1+1)))
      (kT f f.F λr=>
      aq (!r)
       (Q (some 10))
       (Q none))))
def nO (f:GFormula) (i:Int) (Q:Int->Prop):Prop:=
 ((0:Int)<=i/\i<(f.V.length:Int))/\
 df (α:=Int×Int) (λnext2=>
  aq ((at' f.V i).D == 0)
   (next2 (0,0))
   (aq ((at' f.V i).D == 1)
    (next2 (1,1))
    (aq ((at' f.V i).D == 2)
     (next2 (1,16))
     (aq ((at' f.V i).D == 3)
      (next2 (1,16))
      (aq ((at' f.V i).D == 4)
       (next2 (1,16))
       (aq ((at' f.V i).D == 5)
        (next2 (1,16))
        (Q 7)))))))
  λ⟨least,most⟩=>
  aq (decide ((((at' f.V i).M).length:Int)<least))
   (Q 11)
   (aq (decide (most<(((at' f.V i).M).length:Int)))
    (Q 11)
    (bo (σ:=Int) 0 λx next1=>
     aq (decide (x<(((at' f.V i).M).length:Int)))
      (((0:Int)<=x/\x<(((at' f.V i).M).length:Int))/\
      aq (decide ((at' ((at' f.V i).M) x)<0))
       (Q 10)
       (rng (f.A+i)/\
       aq (decide ((f.A+i)<=(at' ((at' f.V i).M) x)))
        (Q 10)
        (rng (x+1)/\
        next1 (x+1))))
      (aq ((at' f.V i).D == 0)
       (aq ((at' f.V i).K != 0)
        (aq ((at' f.V i).K != 1)
         (Q 3)
         (Q 0))
        (Q 0))
       (aq ((at' f.V i).D == 4)
        (aq (decide ((at' f.V i).K<1))
         (Q 3)
         (aq (decide ((((at' f.V i).M).length:Int)<(at' f.V i).K))
          (Q 3)
          (Q 0)))
        (aq ((at' f.V i).K != 0)
         (Q 2)
         (Q 0))))))
def mU (f:GFormula) (arg:Int) (Q:Bool->Prop):Prop:=
 aq (decide (0<=f.A))
  (aq (decide (0<=arg))
   (aq (decide (arg<f.A))
    (Q true)
    (rng (arg-f.A)/\
    Q (decide ((arg-f.A)<(f.V.length:Int)))))
   (Q false))
  (Q false)
def mV (f:GFormula) (Q:Int->Prop):Prop:=
 aq (decide (f.A<0))
  (Q 3)
  (aq (decide (24<f.A))
   (Q 3)
   (aq (decide (128<(f.V.length:Int)))
    (Q 4)
    (bo (σ:=Int) 0 λx next1=>
     aq (decide (x<(f.V.length:Int)))
      (nO f x λe=>
      aq (e != 0)
       (Q e)
       (rng (x+1)/\
       next1 (x+1)))
      (mU f f.F λr=>
      aq (!r)
       (Q 10)
       (Q 0)))))
def kQ (f:GFormula) (failed:Int) (Q:Option Int->Prop):Prop:=
 du f λe=>
 aq (isSome e)
  (Q e)
  (df (α:=Bool) (λnext1=>
   aq (decide (failed<0))
    (next1 true)
    ((((0:Int)<=f.A/\f.A<=64)/\rng (1*2^(toNat f.A)))/\
    next1 (decide ((1*2^(toNat f.A))<=failed))))
   λx=>
   aq x
    (Q (some 3))
    (Q none))
def jS (f:GFormula) (failed:Int) (Q:List Bool->Prop):Prop:=
 rng (f.A+(f.V.length:Int))/\
 lx 1 f.A (f.A+(f.V.length:Int))/\
 bo (σ:=Int×(List Bool)) (0,(bS f.A false)) λ⟨x,v⟩ next1=>
  aq (decide (x<((toNat f.A):Int)))
   (((0:Int)<=x/\x<=64)/\
   ((0:Int)<=x/\x<(v.length:Int))/\
   rng (x+1)/\
   next1 ((x+1),(bu v x ((bits .and .i64 (failed / 2^(toNat x)) 1) == 1))))
   (bo (σ:=Int×(List Bool)) (0,v) λ⟨x1,v1⟩ next2=>
    aq (decide (x1<(f.V.length:Int)))
     (((0:Int)<=x1/\x1<(f.V.length:Int))/\
     bo (σ:=Int×Int) (0,0) λ⟨n,x2⟩ next3=>
      aq (decide (x2<(((at' f.V x1).M).length:Int)))
       (((0:Int)<=x2/\x2<(((at' f.V x1).M).length:Int))/\
       ((0:Int)<=(at' ((at' f.V x1).M) x2)/\(at' ((at' f.V x1).M) x2)<(v1.length:Int))/\
       aq (at' v1 (at' ((at' f.V x1).M) x2))
        (rng (n+1)/\
        rng (x2+1)/\
        next3 ((n+1),(x2+1)))
        (rng (x2+1)/\
        next3 (n,(x2+1))))
       (df (α:=Bool) (λnext4=>
        aq ((at' f.V x1).D == 0)
         (next4 ((at' f.V x1).K == 1))
         (aq ((at' f.V x1).D == 1)
          (next4 (n == 0))
          (aq ((at' f.V x1).D == 2)
           (next4 (n == (((at' f.V x1).M).length:Int)))
           (aq ((at' f.V x1).D == 3)
            (next4 (decide (0<n)))
            (aq ((at' f.V x1).D == 4)
             (next4 (decide ((at' f.V x1).K<=n)))
             (aq ((at' f.V x1).D == 5)
              (next4 ((tmod n 2) == 1))
              (next4 false)))))))
        λis=>
        ((v1++[is]).length*1<=140737488355328)/\
        rng (x1+1)/\
        next2 ((x1+1),(v1++[is]))))
     (Q v1))
def kS (f:GFormula) (failed:Int) (Q:Bool->Option Int->Prop):Prop:=
 kQ f failed λe=>
 aq (isSome e)
  (Q false e)
  (dr (jS f failed) λr=>
  ((0:Int)<=f.F/\f.F<(r.length:Int))/\
  Q (at' r f.F) none)
def iS (f:GFormula) (Q:List Bool->Prop):Prop:=
 rng (f.A+(f.V.length:Int))/\
 lx 1 (f.A+(f.V.length:Int)) (f.A+(f.V.length:Int))/\
 ((0:Int)<=f.F/\f.F<((toNat (f.A+(f.V.length:Int))):Int))/\
 rng ((f.V.length:Int)-1)/\
 bo (σ:=Int×(List Bool)) (((f.V.length:Int)-1),(bu (bS (f.A+(f.V.length:Int)) false) f.F true)) λ⟨i,mark⟩ next1=>
  aq (decide (0<=i))
   (rng (f.A+i)/\
   ((0:Int)<=(f.A+i)/\(f.A+i)<(mark.length:Int))/\
   aq (at' mark (f.A+i))
    (((0:Int)<=i/\i<(f.V.length:Int))/\
    bo (σ:=Int×(List Bool)) (0,mark) λ⟨x,mark1⟩ next2=>
     aq (decide (x<(((at' f.V i).M).length:Int)))
      (((0:Int)<=x/\x<(((at' f.V i).M).length:Int))/\
      ((0:Int)<=(at' ((at' f.V i).M) x)/\(at' ((at' f.V i).M) x)<(mark1.length:Int))/\
      rng (x+1)/\
      next2 ((x+1),(bu mark1 (at' ((at' f.V i).M) x) true)))
      (rng (i-1)/\
      next1 ((i-1),mark1)))
    (rng (i-1)/\
    next1 ((i-1),mark)))
   (Q mark)
def mc (f:GFormula) (Q:GFormula->Option Int->Prop):Prop:=
 du f λe=>
 aq (isSome e)
  (Q (⟨0,[],0⟩:GFormula) e)
  (rng (f.A+(f.V.length:Int))/\
  lx 8 (f.A+(f.V.length:Int)) (f.A+(f.V.length:Int))/\
  bo (σ:=Int×(List Int)) (0,(bS (f.A+(f.V.length:Int)) 0)) λ⟨x,to⟩ next1=>
   aq (decide (x<f.A))
    (((0:Int)<=x/\x<(to.length:Int))/\
    rng (x+1)/\
    next1 ((x+1),(bu to x x)))
    (dr (iS f) λr=>
    ((0:Int)<=f.A/\f.A<=(r.length:Int)/\(r.length:Int)<=(r.length:Int))/\
    bo (σ:=Int×(List Int)×(List GNode)) (0,to,[]) λ⟨x1,to1,x2⟩ next2=>
     aq (decide (x1<((bf r f.A (r.length:Int)).length:Int)))
      (((0:Int)<=x1/\x1<((bf r f.A (r.length:Int)).length:Int))/\
      aq (!(at' (bf r f.A (r.length:Int)) x1))
       (rng (x1+1)/\
       next2 ((x1+1),to1,x2))
       (((0:Int)<=x1/\x1<(f.V.length:Int))/\
       bo (σ:=Int×(List Int)) (0,[]) λ⟨x3,x4⟩ next3=>
        aq (decide (x3<(((at' f.V x1).M).length:Int)))
         (((0:Int)<=x3/\x3<(((at' f.V x1).M).length:Int))/\
         ((0:Int)<=(at' ((at' f.V x1).M) x3)/\(at' ((at' f.V x1).M) x3)<(to1.length:Int))/\
         ((x4++[(at' to1 (at' ((at' f.V x1).M) x3))]).length*8<=140737488355328)/\
         rng (x3+1)/\
         next3 ((x3+1),(x4++[(at' to1 (at' ((at' f.V x1).M) x3))])))
         (rng (f.A+x1)/\
         rng (f.A+(x2.length:Int))/\
         ((0:Int)<=(f.A+x1)/\(f.A+x1)<(to1.length:Int))/\
         ((x2++[(⟨(at' f.V x1).D,(at' f.V x1).K,x4⟩:GNode)]).length*40<=140737488355328)/\
         rng (x1+1)/\
         next2 ((x1+1),(bu to1 (f.A+x1) (f.A+(x2.length:Int))),(x2++[(⟨(at' f.V x1).D,(at' f.V x1).K,x4⟩:GNode)])))))
      (((0:Int)<=f.F/\f.F<(to1.length:Int))/\
      Q (⟨f.A,x2,(at' to1 f.F)⟩:GFormula) none)))
def md (f:GFormula) (Q:Int->Int->Option Int->Prop):Prop:=
 du f λe=>
 aq (isSome e)
  (Q 0 0 e)
  (dr (iS f) λr=>
  ((0:Int)<=f.A/\f.A<=(r.length:Int)/\(r.length:Int)<=(r.length:Int))/\
  bo (σ:=Int×Int×Int) (0,0,0) λ⟨nodes,args,x⟩ next1=>
   aq (decide (x<((bf r f.A (r.length:Int)).length:Int)))
    (((0:Int)<=x/\x<((bf r f.A (r.length:Int)).length:Int))/\
    aq (at' (bf r f.A (r.length:Int)) x)
     (rng (nodes+1)/\
     ((0:Int)<=x/\x<(f.V.length:Int))/\
     rng (args+(((at' f.V x).M).length:Int))/\
     lj (args+(((at' f.V x).M).length:Int)) λargs1=>
     rng (x+1)/\
     next1 ((nodes+1),args1,(x+1)))
     (rng (x+1)/\
     next1 (nodes,args,(x+1))))
    (Q nodes args none))
def cI:Nat->Int->Int->(List GNode)->Int->(List Int)->(List Bool)->(List Int->List Bool->Prop)->Prop
 | 0,_,_,_,_,_,_,_=>False
 | fu+1,arg,Formula,w,w1,events,seen,Q=>
  ((0:Int)<=arg/\arg<(seen.length:Int))/\
  aq (at' seen arg)
   (Q events seen)
   (((0:Int)<=arg/\arg<(seen.length:Int))/\
   aq (decide (arg<Formula))
    (((events++[arg]).length*8<=140737488355328)/\
    Q (events++[arg]) (bu seen arg true))
    (rng (arg-Formula)/\
    ((0:Int)<=(arg-Formula)/\(arg-Formula)<(w.length:Int))/\
    bo (σ:=Int×(List Int)×(List Bool)) (0,events,(bu seen arg true)) λ⟨x,x1,x2⟩ next1=>
     aq (decide (x<(((at' w (arg-Formula)).M).length:Int)))
      (((0:Int)<=x/\x<(((at' w (arg-Formula)).M).length:Int))/\
      cI fu (at' ((at' w (arg-Formula)).M) x) Formula w w1 x1 x2 λu u1=>
      u1.length=x2.length/\
      rng (x+1)/\
      next1 ((x+1),u,u1))
      (Q x1 x2)))
def m4 (f:GFormula) (Q:List Int->List Bool->Prop):Prop:=
 rng (f.A+(f.V.length:Int))/\
 lx 1 (f.A+(f.V.length:Int)) (f.A+(f.V.length:Int))/\
 ∃fu,cI fu f.F f.A f.V f.F ([]:List Int) (bS (f.A+(f.V.length:Int)) false) λu u1=>
 u1.length=(bS (f.A+(f.V.length:Int)) false).length/\
 bo (σ:=Int×(List Int)) (0,u) λ⟨x,x1⟩ next1=>
  aq (decide (x<f.A))
   (((0:Int)<=x/\x<(u1.length:Int))/\
   aq (!(at' u1 x))
    (((x1++[x]).length*8<=140737488355328)/\
    rng (x+1)/\
    next1 ((x+1),(x1++[x])))
    (rng (x+1)/\
    next1 ((x+1),x1)))
   (Q x1 u1)
def m7 (f:GFormula) (Q:List Int->Option Int->Prop):Prop:=
 du f λerr=>
 aq (isSome err)
  (Q [] err)
  (m4 f λr _=>
  Q r none)
def m8 (o:List Int) (vars:Int) (Q:Option Int->Prop):Prop:=
 df (α:=Bool) (λnext3=>
  aq (decide (vars<0))
   (next3 true)
   (next3 (decide (24<vars))))
  λx=>
  aq x
   (Q (some 3))
   (aq ((o.length:Int) != vars)
    (Q (some 11))
    (lx 1 vars vars/\
    bo (σ:=Int×(List Bool)) (0,(bS vars false)) λ⟨x1,seen⟩ next1=>
     aq (decide (x1<(o.length:Int)))
      (((0:Int)<=x1/\x1<(o.length:Int))/\
      df (α:=Bool) (λnext2=>
       aq (decide ((at' o x1)<0))
        (next2 true)
        (next2 (decide (vars<=(at' o x1)))))
       λx2=>
       aq x2
        (Q (some 3))
        (((0:Int)<=(at' o x1)/\(at' o x1)<(seen.length:Int))/\
        aq (at' seen (at' o x1))
         (Q (some 6))
         (((0:Int)<=(at' o x1)/\(at' o x1)<(seen.length:Int))/\
         rng (x1+1)/\
         next1 ((x1+1),(bu seen (at' o x1) true)))))
      (Q none)))
def jE (order:List Int) (Q:List Int->List Int->GMap Int->GMap Int->Prop):Prop:=
 (order.length*8<=140737488355328)/\
 lx 8 (order.length:Int) (order.length:Int)/\
 bo (σ:=Int×(List Int)) (0,(bS (order.length:Int) 0)) λ⟨x,x1⟩ next1=>
  aq (decide (x<(order.length:Int)))
   (((0:Int)<=x/\x<(order.length:Int))/\
   ((0:Int)<=(at' order x)/\(at' order x)<(x1.length:Int))/\
   rng (x+1)/\
   next1 ((x+1),(bu x1 (at' order x) x)))
   (Q order x1 (jb:GMap Int) (jb:GMap Int))
def cM (v:Int) (lo:Int) (hi:Int) (_order:List Int) (_place:List Int) (nodes:List GDNode) (unique:GMap Int) (_memo:GMap Int) (Q:List GDNode->GMap Int->Int->Prop):Prop:=
 aq (lo == hi)
  (Q nodes unique lo)
  (aq (!(isSome (cP unique [v,lo,hi])))
   (rng (2+(nodes.length:Int))/\
   ((nodes++[(⟨v,lo,hi⟩:GDNode)]).length*24<=140737488355328)/\
   Q (nodes++[(⟨v,lo,hi⟩:GDNode)]) (mput unique [v,lo,hi] (2+(nodes.length:Int))) (2+(nodes.length:Int)))
   (Q nodes unique (getD (cP unique [v,lo,hi]) 0)))
def dd (i:Int) (order:List Int) (place:List Int) (nodes:List GDNode) (unique:GMap Int) (memo:GMap Int) (Q:List GDNode->GMap Int->Int->Prop):Prop:=
 cM i 0 1 order place nodes unique memo λu u1 r=>
 Q u u1 r
def bD (r:Int) (order:List Int) (place:List Int) (nodes:List GDNode) (_unique:GMap Int) (_memo:GMap Int) (Q:Int->Prop):Prop:=
 aq (decide (r<2))
  (Q (order.length:Int))
  (rng (r-2)/\
  ((0:Int)<=(r-2)/\(r-2)<(nodes.length:Int))/\
  ((0:Int)<=(at' nodes (r-2)).H/\(at' nodes (r-2)).H<(place.length:Int))/\
  Q (at' place ((at' nodes (r-2)).H)))
def bN (r:Int) (level:Int) (order:List Int) (place:List Int) (nodes:List GDNode) (unique:GMap Int) (memo:GMap Int) (Q:Int->Int->Prop):Prop:=
 bD r order place nodes unique memo λr1=>
 aq (r1 != level)
  (Q r r)
  (rng (r-2)/\
  ((0:Int)<=(r-2)/\(r-2)<(nodes.length:Int))/\
  Q ((at' nodes (r-2)).W) ((at' nodes (r-2)).X))
def aH:Nat->Int->Int->Int->(List Int)->(List Int)->(List GDNode)->(GMap Int)->(GMap Int)->(List GDNode->GMap Int->GMap Int->Int->Prop)->Prop
 | 0,_,_,_,_,_,_,_,_,_=>False
 | fu+1,c,a,b,order,place,nodes,unique,memo,Q=>
  df (α:=Unit) (λnext1=>
   df (α:=Bool) (λnext2=>
    aq (c == 1)
     (next2 true)
     (next2 (a == b)))
    λx=>
    aq x
     (Q nodes unique memo a)
     (aq (c == 0)
      (Q nodes unique memo b)
      (aq (a == 1)
       (aq (b == 0)
        (Q nodes unique memo c)
        (next1 ()))
       (next1 ()))))
   λ_=>
   aq (isSome (cP memo [c,a,b]))
    (Q nodes unique memo (getD (cP memo [c,a,b]) 0))
    (bD c order place nodes unique memo λr=>
    bD a order place nodes unique memo λr1=>
    bD b order place nodes unique memo λr2=>
    bN c (min (min r r1) r2) order place nodes unique memo λr3 r4=>
    bN a (min (min r r1) r2) order place nodes unique memo λr5 r6=>
    bN b (min (min r r1) r2) order place nodes unique memo λr7 r8=>
    aH fu r3 r5 r7 order place nodes unique memo λu u1 u2 lo=>
    aH fu r4 r6 r8 order place u u1 u2 λu3 u4 u5 hi=>
    ((0:Int)<=(min (min r r1) r2)/\(min (min r r1) r2)<(order.length:Int))/\
    cM (at' order (min (min r r1) r2)) lo hi order place u3 u4 u5 λu6 u7 r9=>
    Q u6 u7 (mput u5 [c,a,b] r9) r9)
def dY (a:Int) (order:List Int) (place:List Int) (nodes:List GDNode) (unique:GMap Int) (memo:GMap Int) (Q:List GDNode->GMap Int->GMap Int->Int->Prop):Prop:=
 ∃fu,aH fu a 0 1 order place nodes unique memo λu u1 u2 r=>
 Q u u1 u2 r
def d4 (a:Int) (b:Int) (order:List Int) (place:List Int) (nodes:List GDNode) (unique:GMap Int) (memo:GMap Int) (Q:List GDNode->GMap Int->GMap Int->Int->Prop):Prop:=
 ∃fu,aH fu a b 0 order place nodes unique memo λu u1 u2 r=>
 Q u u1 u2 r
def eC (a:Int) (b:Int) (order:List Int) (place:List Int) (nodes:List GDNode) (unique:GMap Int) (memo:GMap Int) (Q:List GDNode->GMap Int->GMap Int->Int->Prop):Prop:=
 ∃fu,aH fu a 1 b order place nodes unique memo λu u1 u2 r=>
 Q u u1 u2 r
def dX (a:Int) (b:Int) (order:List Int) (place:List Int) (nodes:List GDNode) (unique:GMap Int) (memo:GMap Int) (Q:List GDNode->GMap Int->GMap Int->Int->Prop):Prop:=
 dY b order place nodes unique memo λu u1 u2 r=>
 ∃fu,aH fu a r b order place u u1 u2 λu3 u4 u5 r1=>
 Q u3 u4 u5 r1
def aT:Nat->Int->Int->(GMap Bool)->(List Int)->(List Int)->(List GDNode)->(GMap Int)->(GMap Int)->(GMap Bool->Prop)->Prop
 | 0,_,_,_,_,_,_,_,_,_=>False
 | fu+1,r,u,u1,order,place,nodes,unique,memo,Q=>
  aq (decide (r<2))
   (Q u1)
   (aq (getD (cP u1 [r]) false)
    (Q u1)
    (aq (decide (u<((GMap.n u1:Nat):Int)))
     (Q u1)
     (rng (r-2)/\
     ((0:Int)<=(r-2)/\(r-2)<(nodes.length:Int))/\
     ∃u2,(aT fu ((at' nodes (r-2)).W) u (mput u1 [r] true) order place nodes unique memo λy1=>y1=u2)/\
     rng (r-2)/\
     ((0:Int)<=(r-2)/\(r-2)<(nodes.length:Int))/\
     ∃u3,(aT fu ((at' nodes (r-2)).X) u u2 order place nodes unique memo λy2=>y2=u3)/\
     Q u3)))
def cr (root:Int) (most:Int) (order:List Int) (place:List Int) (nodes:List GDNode) (unique:GMap Int) (memo:GMap Int) (Q:Bool->Prop):Prop:=
 ∃fu,aT fu root most (jb:GMap Bool) order place nodes unique memo λu=>
 Q (decide (((GMap.n u:Nat):Int)<=most))
def bv:Nat->Int->Int->(GMap Int)->(List Int)->(List GDNode)->(List Int)->(List Int)->(List GDNode)->(GMap Int)->(GMap Int)->(GMap Int->List GDNode->Int->Prop)->Prop
 | 0,_,_,_,_,_,_,_,_,_,_,_=>False
 | fu+1,r,Z,u,Order,V,order,place,nodes,unique,memo,Q=>
  aq (isSome (cP u [r]))
   (Q u V (getD (cP u [r]) 0))
   (rng (r-2)/\
   ((0:Int)<=(r-2)/\(r-2)<(nodes.length:Int))/\
   bv fu ((at' nodes (r-2)).W) Z u Order V order place nodes unique memo λu1 u2 lo=>
   bv fu ((at' nodes (r-2)).X) Z u1 Order u2 order place nodes unique memo λu3 u4 hi1=>
   ((u4++[(⟨(at' nodes (r-2)).H,lo,hi1⟩:GDNode)]).length*24<=140737488355328)/\
   rng (1+((u4++[(⟨(at' nodes (r-2)).H,lo,hi1⟩:GDNode)]).length:Int))/\
   Q (mput u3 [r] (1+((u4++[(⟨(at' nodes (r-2)).H,lo,hi1⟩:GDNode)]).length:Int))) (u4++[(⟨(at' nodes (r-2)).H,lo,hi1⟩:GDNode)]) (getD (cP (mput u3 [r] (1+((u4++[(⟨(at' nodes (r-2)).H,lo,hi1⟩:GDNode)]).length:Int))) [r]) 0))
def db (root:Int) (order:List Int) (place:List Int) (nodes:List GDNode) (unique:GMap Int) (memo:GMap Int) (Q:GDiagram->Prop):Prop:=
 (order.length*8<=140737488355328)/\
 ∃fu,bv fu root 0 (mput (mput (jb:GMap Int) [0] 0) [1] 1) order ([]:List GDNode) order place nodes unique memo λ_ u1 r=>
 Q (⟨order,u1,r⟩:GDiagram)
def mL (refs:List Int) (first:Int) (order:List Int) (place:List Int) (nodes:List GDNode) (unique:GMap Int) (memo:GMap Int) (Q:List GDNode->GMap Int->GMap Int->Int->Prop):Prop:=
 bo (σ:=Int×Int×(List GDNode)×(GMap Int)×(GMap Int)) (first,0,nodes,unique,memo) λ⟨first1,x,x1,x2,x3⟩ next1=>
  aq (decide (x<(refs.length:Int)))
   (((0:Int)<=x/\x<(refs.length:Int))/\
   d4 first1 (at' refs x) order place x1 x2 x3 λu u1 u2 first2=>
   rng (x+1)/\
   next1 (first2,(x+1),u,u1,u2))
   (Q x1 x2 x3 first1)
def mg (refs:List Int) (first:Int) (order:List Int) (place:List Int) (nodes:List GDNode) (unique:GMap Int) (memo:GMap Int) (Q:List GDNode->GMap Int->GMap Int->Int->Prop):Prop:=
 bo (σ:=Int×Int×(List GDNode)×(GMap Int)×(GMap Int)) (first,0,nodes,unique,memo) λ⟨first1,x,x1,x2,x3⟩ next1=>
  aq (decide (x<(refs.length:Int)))
   (((0:Int)<=x/\x<(refs.length:Int))/\
   eC first1 (at' refs x) order place x1 x2 x3 λu u1 u2 first2=>
   rng (x+1)/\
   next1 (first2,(x+1),u,u1,u2))
   (Q x1 x2 x3 first1)
def mf (refs:List Int) (first:Int) (order:List Int) (place:List Int) (nodes:List GDNode) (unique:GMap Int) (memo:GMap Int) (Q:List GDNode->GMap Int->GMap Int->Int->Prop):Prop:=
 bo (σ:=Int×Int×(List GDNode)×(GMap Int)×(GMap Int)) (first,0,nodes,unique,memo) λ⟨first1,x,x1,x2,x3⟩ next1=>
  aq (decide (x<(refs.length:Int)))
   (((0:Int)<=x/\x<(refs.length:Int))/\
   dX first1 (at' refs x) order place x1 x2 x3 λu u1 u2 first2=>
   rng (x+1)/\
   next1 (first2,(x+1),u,u1,u2))
   (Q x1 x2 x3 first1)
def jB (refs:List Int) (k6:Int) (order:List Int) (place:List Int) (nodes:List GDNode) (unique:GMap Int) (memo:GMap Int) (Q:List GDNode->GMap Int->GMap Int->Int->Prop):Prop:=
 rng (k6+1)/\
 lx 8 (k6+1) (k6+1)/\
 ((0:Int)<=0/\0<((toNat (k6+1)):Int))/\
 bo (σ:=Int×(List Int)×(List GDNode)×(GMap Int)×(GMap Int)) (0,(bu (bS (k6+1) 0) 0 1),nodes,unique,memo) λ⟨x,need,x1,x2,x3⟩ next1=>
  aq (decide (x<(refs.length:Int)))
   (((0:Int)<=x/\x<(refs.length:Int))/\
   bo (σ:=Int×(List Int)×(List GDNode)×(GMap Int)×(GMap Int)) (k6,need,x1,x2,x3) λ⟨j,need1,x4,x5,x6⟩ next2=>
    aq (decide (0<j))
     (rng (j-1)/\
     ((0:Int)<=(j-1)/\(j-1)<(need1.length:Int))/\
     ((0:Int)<=j/\j<(need1.length:Int))/\
     ∃u u1 u2 r,(∃fu,aH fu (at' refs x) (at' need1 (j-1)) (at' need1 j) order place x4 x5 x6 λy1 y2 y3 y4=>y1=u/\y2=u1/\y3=u2/\y4=r)/\
     ((0:Int)<=j/\j<(need1.length:Int))/\
     rng (j-1)/\
     next2 ((j-1),(bu need1 j r),u,u1,u2))
     (rng (x+1)/\
     next1 ((x+1),need1,x4,x5,x6)))
   (((0:Int)<=k6/\k6<(need.length:Int))/\
   Q x1 x2 x3 (at' need k6))
def gN (x:GNode) (refs:List Int) (order:List Int) (place:List Int) (nodes:List GDNode) (unique:GMap Int) (memo:GMap Int) (Q:List GDNode->GMap Int->GMap Int->Int->Prop):Prop:=
 aq (x.D == 0)
  (Q nodes unique memo x.K)
  (aq (x.D == 1)
   (((0:Int)<=0/\0<(refs.length:Int))/\
   dY (at' refs 0) order place nodes unique memo λu u1 u2 r=>
   Q u u1 u2 r)
   (aq (x.D == 2)
    (mL refs 1 order place nodes unique memo λu3 u4 u5 r1=>
    Q u3 u4 u5 r1)
    (aq (x.D == 3)
     (mg refs 0 order place nodes unique memo λu6 u7 u8 r2=>
     Q u6 u7 u8 r2)
     (aq (x.D == 5)
      (mf refs 0 order place nodes unique memo λu9 u10 u11 r3=>
      Q u9 u10 u11 r3)
      (jB refs x.K order place nodes unique memo λu12 u13 u14 r4=>
      Q u12 u13 u14 r4)))))
def iT (f:GFormula) (o:List Int) (Q:GDiagram->Option Int->Prop):Prop:=
 md f λr _ r2=>
 aq (isSome r2)
  (Q (⟨[],[],0⟩:GDiagram) r2)
  (m8 o f.A λerr=>
  aq (isSome err)
   (Q (⟨[],[],0⟩:GDiagram) err)
   (df (α:=GFormula) (λnext4=>
    aq (decide (0<r))
     (mc f λr7 r8=>
     aq (isSome r8)
      (Q (⟨[],[],0⟩:GDiagram) r8)
      (next4 r7))
     (next4 (⟨f.A,[],f.F⟩:GFormula)))
    λx=>
    jE o λorder place unique memo=>
    rng (x.A+(x.V.length:Int))/\
    lx 8 (x.A+(x.V.length:Int)) (x.A+(x.V.length:Int))/\
    bo (σ:=Int×(List Int)×(GMap Int)×(List GDNode)) (0,(bS (x.A+(x.V.length:Int)) 0),unique,[]) λ⟨x1,refs,x2,x3⟩ next1=>
     aq (decide (x1<x.A))
      (dd x1 order place x3 x2 memo λu u1 r3=>
      ((0:Int)<=x1/\x1<(refs.length:Int))/\
      rng (x1+1)/\
      next1 ((x1+1),(bu refs x1 r3),u1,u))
      (bo (σ:=Int×(List Int)×(GMap Int)×(GMap Int)×(List GDNode)) (0,refs,x2,memo,x3) λ⟨x4,refs1,x5,x6,x7⟩ next2=>
       aq (decide (x4<(x.V.length:Int)))
        (((0:Int)<=x4/\x4<(x.V.length:Int))/\
        bo (σ:=Int×(List Int)) (0,[]) λ⟨x8,args⟩ next3=>
         aq (decide (x8<(((at' x.V x4).M).length:Int)))
          (((0:Int)<=x8/\x8<(((at' x.V x4).M).length:Int))/\
          ((0:Int)<=(at' ((at' x.V x4).M) x8)/\(at' ((at' x.V x4).M) x8)<(refs1.length:Int))/\
          ((args++[(at' refs1 (at' ((at' x.V x4).M) x8))]).length*8<=140737488355328)/\
          rng (x8+1)/\
          next3 ((x8+1),(args++[(at' refs1 (at' ((at' x.V x4).M) x8))])))
          (rng (x.A+x4)/\
          ∃u2 u3 u4 r4,(gN (at' x.V x4) args order place x7 x5 x6 λy1 y2 y3 y4=>y1=u2/\y2=u3/\y3=u4/\y4=r4)/\
          ((0:Int)<=(x.A+x4)/\(x.A+x4)<(refs1.length:Int))/\
          rng (x.A+x4)/\
          ((0:Int)<=(x.A+x4)/\(x.A+x4)<(refs1.length:Int))/\
          cr (at' (bu refs1 (x.A+x4) r4) (x.A+x4)) 4096 order place u2 u3 u4 λr5=>
          aq (!r5)
           (Q (⟨[],[],0⟩:GDiagram) (some 4))
           (rng (x4+1)/\
           next2 ((x4+1),(bu refs1 (x.A+x4) r4),u3,u4,u2))))
        (((0:Int)<=x.F/\x.F<(refs1.length:Int))/\
        db (at' refs1 x.F) order place x7 x5 x6 λr6=>
        Q r6 none))))
def cQ (s:List Int) (Q:List Int->Prop):Prop:=
 ∀isnil:Bool,(isnil=true->s=[])->
 aq isnil
  (Q [])
  (((([]:List Int)++s).length*4<=140737488355328)/\
  Q (([]:List Int)++s))
def fy (s:List Int) (Q:List Int->Prop):Prop:=
 ∀isnil:Bool,(isnil=true->s=[])->
 aq isnil
  (Q [])
  (((([]:List Int)++s).length*8<=140737488355328)/\
  Q (([]:List Int)++s))
def eK (s:List Int) (Q:List Int->Prop):Prop:=
 ∀isnil:Bool,(isnil=true->s.length=0)->
 aq isnil
  (Q [])
  (((([]:List Int)++s).length*8<=140737488355328)/\
  Q (([]:List Int)++s))
def mA (x:GRat) (Q:Bool->Prop):Prop:=
 gr x λr=>
 Q (!r)
def bO (s:List GRat) (Q:Int->Prop):Prop:=
 bo (σ:=Int) 0 λx next1=>
  aq (decide (x<(s.length:Int)))
   (((0:Int)<=x/\x<(s.length:Int))/\
   mA (at' s x) λr=>
   aq r
    (Q x)
    (rng (x+1)/\
    next1 (x+1)))
   (Q (-1))
def bI (s:List GRat) (Q:Bool->Prop):Prop:=
 bO s λr=>
 Q (decide (0<=r))
def kG (p:List GRat) (vars:Int) (Q:Option Int->Prop):Prop:=
 aq ((p.length:Int) != vars)
  (Q (some 11))
  (bI p λr=>
  aq r
   (Q (some 3))
   (Q none))
def nM (v:List GRat) (r:Int) (Q:GRat->Prop):Prop:=
 aq (decide (r<2))
  (dU r λr1=>
  Q r1)
  (rng (r-2)/\
  ((0:Int)<=(r-2)/\(r-2)<(v.length:Int))/\
  Q (at' v (r-2)))
def kF (r:Int) (v:List GRat) (Q:GRat->Prop):Prop:=
 aq (decide (r<2))
  (dU r λr1=>
  Q r1)
  (rng (r-2)/\
  ((0:Int)<=(r-2)/\(r-2)<(v.length:Int))/\
  Q (at' v (r-2)))
def jk (n:GDNode) (p:List GRat) (v:List GRat) (Q:GRat->Prop):Prop:=
 ((0:Int)<=n.H/\n.H<(p.length:Int))/\
 dr (dU 1) λr=>
 dr (d8 r (at' p n.H)) λr1=>
 ∃r2,(kF n.W v λy1=>y1=r2)/\
 dr (dl r1 r2) λr3=>
 ∃r4,(kF n.X v λy2=>y2=r4)/\
 dr (dl (at' p n.H) r4) λr5=>
 dr (d9 r3 r5) λr6=>
 Q r6
def jO (d:GDiagram) (p:List GRat) (Q:List GRat->Prop):Prop:=
 lx 56 0 (d.V.length:Int)/\
 bo (σ:=Int×(List GRat)) (0,(bS 0 (⟨false,[],[]⟩:GRat))) λ⟨x,v⟩ next1=>
  aq (decide (x<(d.V.length:Int)))
   (((0:Int)<=x/\x<(d.V.length:Int))/\
   jk (at' d.V x) p v λr=>
   ((v++[r]).length*56<=140737488355328)/\
   rng (x+1)/\
   next1 ((x+1),(v++[r])))
   (Q v)
def mQ (f:GFormula) (p:List GRat) (Q:GRat->Option Int->Prop):Prop:=
 du f λerr=>
 aq (isSome err)
  (Q (⟨false,[],[]⟩:GRat) err)
  (kG p f.A λerr1=>
  aq (isSome err1)
   (Q (⟨false,[],[]⟩:GRat) err1)
   (m7 f λr r1=>
   aq (isSome r1)
    (Q (⟨false,[],[]⟩:GRat) r1)
    (iT f r λr2 r3=>
    aq (isSome r3)
     (Q (⟨false,[],[]⟩:GRat) r3)
     (dr (jO r2 p) λr4=>
     dr (nM r4 r2.Z) λr5=>
     Q r5 none))))
def nk (x:GRat) (Q:Bool->Prop):Prop:=
 gr x λr=>
 Q (!r)
def bT (s:List GRat) (Q:Int->Prop):Prop:=
 bo (σ:=Int) 0 λx next1=>
  aq (decide (x<(s.length:Int)))
   (((0:Int)<=x/\x<(s.length:Int))/\
   nk (at' s x) λr=>
   aq r
    (Q x)
    (rng (x+1)/\
    next1 (x+1)))
   (Q (-1))
def bx (s:List GRat) (Q:Bool->Prop):Prop:=
 bT s λr=>
 Q (decide (0<=r))
def fN (m:GMission) (Q:Option Int->Prop):Prop:=
 aq ((m.N.length:Int) == 0)
  (Q (some 11))
  (aq (decide (6<(m.N.length:Int)))
   (Q (some 4))
   (((0:Int)<=0/\0<(m.N.length:Int))/\
   bo (σ:=Int) 0 λx next1=>
    aq (decide (x<(m.N.length:Int)))
     (((0:Int)<=x/\x<(m.N.length:Int))/\
     du (at' m.N x) λerr=>
     aq (isSome err)
      (Q err)
      (aq ((at' m.N x).A != (at' m.N 0).A)
       (Q (some 11))
       (rng (x+1)/\
       next1 (x+1))))
     (rng ((at' m.N 0).A*(m.N.length:Int))/\
     aq (decide (24<((at' m.N 0).A*(m.N.length:Int))))
      (Q (some 4))
      (aq ((m.P.length:Int) != (at' m.N 0).A)
       (Q (some 11))
       (bo (σ:=Int) 0 λx1 next2=>
        aq (decide (x1<(m.P.length:Int)))
         (((0:Int)<=x1/\x1<(m.P.length:Int))/\
         aq (((at' m.P x1).length:Int) != (m.N.length:Int))
          (Q (some 11))
          (bx (at' m.P x1) λr=>
          aq r
           (Q (some 3))
           (rng (x1+1)/\
           next2 (x1+1))))
         (Q none))))))
def fh (m:GMission) (h1:List Int) (Q:Option Int->Prop):Prop:=
 fN m λerr=>
 aq (isSome err)
  (Q err)
  (aq ((h1.length:Int) != (m.P.length:Int))
   (Q (some 11))
   (bo (σ:=Int) 0 λx next1=>
    aq (decide (x<(h1.length:Int)))
     (((0:Int)<=x/\x<(h1.length:Int))/\
     df (α:=Bool) (λnext2=>
      aq (decide ((at' h1 x)<0))
       (next2 true)
       (next2 (decide ((m.N.length:Int)<(at' h1 x)))))
      λx1=>
      aq x1
       (Q (some 3))
       (rng (x+1)/\
       next1 (x+1)))
     (Q none)))
def kJ (h1:List Int) (j:Int) (Q:Int->Prop):Prop:=
 bo (σ:=Int×Int) (0,0) λ⟨set,x⟩ next1=>
  aq (decide (x<(h1.length:Int)))
   (((0:Int)<=x/\x<(h1.length:Int))/\
   aq (decide ((at' h1 x)<=j))
    ((((0:Int)<=x/\x<=64)/\rng (1*2^(toNat x)))/\
    rng (x+1)/\
    next1 ((bits .or .i64 set (1*2^(toNat x))),(x+1)))
    (rng (x+1)/\
    next1 (set,(x+1))))
   (Q set)
def l7 (m:GMission) (h1:List Int) (Q:Int->Option Int->Prop):Prop:=
 fh m h1 λerr=>
 aq (isSome err)
  (Q 0 err)
  (bo (σ:=Int) 0 λx next1=>
   aq (decide (x<(m.N.length:Int)))
    (((0:Int)<=x/\x<(m.N.length:Int))/\
    dr (kJ h1 x) λr=>
    zK (kS (at' m.N x) r) λr1 r2=>
    aq (isSome r2)
     (Q 0 r2)
     (aq r1
      (Q x none)
      (rng (x+1)/\
      next1 (x+1))))
    (Q (m.N.length:Int) none))
def kK (m:GMission) (h1:List Int) (Q:GRat->Option Int->Prop):Prop:=
 fh m h1 λerr=>
 aq (isSome err)
  (Q (⟨false,[],[]⟩:GRat) err)
  (dU 1 λr=>
  bo (σ:=Int×GRat) (0,r) λ⟨x,x1⟩ next1=>
   aq (decide (x<(h1.length:Int)))
    (((0:Int)<=x/\x<(h1.length:Int))/\
    ((0:Int)<=x/\x<(m.P.length:Int))/\
    rng ((at' h1 x)+1)/\
    ((0:Int)<=0/\0<=(min ((at' h1 x)+1) (m.N.length:Int))/\(min ((at' h1 x)+1) (m.N.length:Int))<=((at' m.P x).length:Int))/\
    bo (σ:=Int×GRat) (0,x1) λ⟨x2,x3⟩ next2=>
     aq (decide (x2<((bf (at' m.P x) 0 (min ((at' h1 x)+1) (m.N.length:Int))).length:Int)))
      (((0:Int)<=x2/\x2<((bf (at' m.P x) 0 (min ((at' h1 x)+1) (m.N.length:Int))).length:Int))/\
      df (α:=GRat) (λnext3=>
       aq (decide (x2<(at' h1 x)))
        (d8 r (at' (bf (at' m.P x) 0 (min ((at' h1 x)+1) (m.N.length:Int))) x2) λr2=>
        next3 r2)
        (next3 (at' (bf (at' m.P x) 0 (min ((at' h1 x)+1) (m.N.length:Int))) x2)))
       λx4=>
       dl x3 x4 λr1=>
       rng (x2+1)/\
       next2 ((x2+1),r1))
      (rng (x+1)/\
      next1 ((x+1),x3)))
    (Q x1 none))
def ea (kind:Int) (k2:Int) (args:List Int) (A:Int) (_Top:Int) (V:List GNode) (Q:List GNode->Int->Prop):Prop:=
 ((V++[(⟨kind,k2,args⟩:GNode)]).length*40<=140737488355328)/\
 rng (A+((V++[(⟨kind,k2,args⟩:GNode)]).length:Int))/\
 rng ((A+((V++[(⟨kind,k2,args⟩:GNode)]).length:Int))-1)/\
 Q (V++[(⟨kind,k2,args⟩:GNode)]) ((A+((V++[(⟨kind,k2,args⟩:GNode)]).length:Int))-1)
def d_ (arg:Int) (u:GFormula) (u1:Int) (u2:Int) (u3:List (List Int)) (Q:Int->Prop):Prop:=
 aq (decide (arg<u.A))
  (((0:Int)<=arg/\arg<(u3.length:Int))/\
  ((0:Int)<=u1/\u1<((at' u3 arg).length:Int))/\
  Q (at' (at' u3 arg) u1))
  (rng (u2+arg)/\
  rng ((u2+arg)-u.A)/\
  Q ((u2+arg)-u.A))
def kL (m:GMission) (Q:GFormula->List GRat->Option Int->Prop):Prop:=
 fN m λerr=>
 aq (isSome err)
  (Q (⟨0,[],0⟩:GFormula) [] err)
  (rng ((m.P.length:Int)*(m.N.length:Int))/\
  lx 24 (m.P.length:Int) (m.P.length:Int)/\
  bo (σ:=Int×(List (List Int))×(List GNode)) (0,(bS (m.P.length:Int) []),[]) λ⟨x,x1,x2⟩ next1=>
   aq (decide (x<((toNat (m.P.length:Int)):Int)))
    (bo (σ:=Int×(List (List Int))×(List Int)×(List GNode)) (0,x1,[],x2) λ⟨x3,x4,so,x5⟩ next2=>
     aq (decide (x3<(m.N.length:Int)))
      (rng (x*(m.N.length:Int))/\
      rng ((x*(m.N.length:Int))+x3)/\
      ((so++[((x*(m.N.length:Int))+x3)]).length*8<=140737488355328)/\
      aq (x3 == 0)
       (((0:Int)<=x/\x<(x4.length:Int))/\
       ((0:Int)<=0/\0<((so++[((x*(m.N.length:Int))+x3)]).length:Int))/\
       ((at' x4 x++[(at' (so++[((x*(m.N.length:Int))+x3)]) 0)]).length*8<=140737488355328)/\
       ((0:Int)<=x/\x<(x4.length:Int))/\
       rng (x3+1)/\
       next2 ((x3+1),(bu x4 x (at' x4 x++[(at' (so++[((x*(m.N.length:Int))+x3)]) 0)])),(so++[((x*(m.N.length:Int))+x3)]),x5))
       (((0:Int)<=x/\x<(x4.length:Int))/\
       ∃r,(eK (so++[((x*(m.N.length:Int))+x3)]) λy1=>y1=r)/\
       ∃u r1,(ea 3 0 r ((m.P.length:Int)*(m.N.length:Int)) 0 x5 λy2 y3=>y2=u/\y3=r1)/\
       ((at' x4 x++[r1]).length*8<=140737488355328)/\
       ((0:Int)<=x/\x<(x4.length:Int))/\
       rng (x3+1)/\
       next2 ((x3+1),(bu x4 x (at' x4 x++[r1])),(so++[((x*(m.N.length:Int))+x3)]),u)))
      (rng (x+1)/\
      next1 ((x+1),x4,x5)))
    (bo (σ:=Int×(List Int)×(List GNode)) (0,[],x2) λ⟨x6,tops,x7⟩ next3=>
     aq (decide (x6<(m.N.length:Int)))
      (((0:Int)<=x6/\x6<(m.N.length:Int))/\
      rng (((m.P.length:Int)*(m.N.length:Int))+(x7.length:Int))/\
      bo (σ:=Int×(List GNode)) (0,x7) λ⟨x8,x9⟩ next4=>
       aq (decide (x8<(((at' m.N x6).V).length:Int)))
        (((0:Int)<=x8/\x8<(((at' m.N x6).V).length:Int))/\
        bo (σ:=Int×(List Int)) (0,[]) λ⟨x10,args⟩ next5=>
         aq (decide (x10<(((at' ((at' m.N x6).V) x8).M).length:Int)))
          (((0:Int)<=x10/\x10<(((at' ((at' m.N x6).V) x8).M).length:Int))/\
          lj (at' ((at' ((at' m.N x6).V) x8).M) x10) λa=>
          d_ a (at' m.N x6) x6 (((m.P.length:Int)*(m.N.length:Int))+(x7.length:Int)) x1 λr2=>
          ((args++[r2]).length*8<=140737488355328)/\
          rng (x10+1)/\
          next5 ((x10+1),(args++[r2])))
          (ea ((at' ((at' m.N x6).V) x8).D) ((at' ((at' m.N x6).V) x8).K) args ((m.P.length:Int)*(m.N.length:Int)) 0 x9 λu1 _=>
          rng (x8+1)/\
          next4 ((x8+1),u1)))
        (d_ ((at' m.N x6).F) (at' m.N x6) x6 (((m.P.length:Int)*(m.N.length:Int))+(x7.length:Int)) x1 λr4=>
        ((tops++[r4]).length*8<=140737488355328)/\
        rng (x6+1)/\
        next3 ((x6+1),(tops++[r4]),x9)))
      (((0:Int)<=0/\0<(tops.length:Int))/\
      df (α:=Int×(List GNode)) (λnext8=>
       aq (decide (1<(m.N.length:Int)))
        (ea 3 0 tops ((m.P.length:Int)*(m.N.length:Int)) (at' tops 0) x7 λu2 r6=>
        next8 (r6,u2))
        (next8 ((at' tops 0),x7)))
       λ⟨x11,x12⟩=>
       aq (decide (128<(x12.length:Int)))
        (Q (⟨0,[],0⟩:GFormula) [] (some 4))
        (bo (σ:=Int×(List GRat)) (0,[]) λ⟨x13,p⟩ next6=>
         aq (decide (x13<(m.P.length:Int)))
          (((0:Int)<=x13/\x13<(m.P.length:Int))/\
          bo (σ:=Int×(List GRat)) (0,p) λ⟨x14,p1⟩ next7=>
           aq (decide (x14<((at' m.P x13).length:Int)))
            (((0:Int)<=x14/\x14<((at' m.P x13).length:Int))/\
            d9 (at' (at' m.P x13) x14) (⟨false,[],[]⟩:GRat) λr5=>
            ((p1++[r5]).length*56<=140737488355328)/\
            rng (x14+1)/\
            next7 ((x14+1),(p1++[r5])))
            (rng (x13+1)/\
            next6 ((x13+1),p1)))
          (Q (⟨((m.P.length:Int)*(m.N.length:Int)),x12,x11⟩:GFormula) p none)))))
def d6 (m:GMission) (Q:Int->Prop):Prop:=
 ((0:Int)<=0/\0<(m.N.length:Int))/\
 Q ((at' m.N 0).A)
def nf (m:GMission) (Q:Int->Prop):Prop:=
 aq ((m.N.length:Int) == 0)
  (Q 11)
  (aq (decide (6<(m.N.length:Int)))
   (Q 4)
   (bo (σ:=Int) 0 λj next1=>
    aq (decide (j<(m.N.length:Int)))
     (((0:Int)<=j/\j<(m.N.length:Int))/\
     mV (at' m.N j) λe=>
     aq (e != 0)
      (Q e)
      (((0:Int)<=j/\j<(m.N.length:Int))/\
      dr (d6 m) λr=>
      aq ((at' m.N j).A != r)
       (Q 11)
       (rng (j+1)/\
       next1 (j+1))))
     (Q 0)))
def j3 (m:GMission) (Q:Int->Prop):Prop:=
 nf m λe=>
 aq (e != 0)
  (Q e)
  (dr (d6 m) λr=>
  rng (r*(m.N.length:Int))/\
  aq (decide (24<(r*(m.N.length:Int))))
   (Q 4)
   (dr (d6 m) λr1=>
   aq ((m.P.length:Int) != r1)
    (Q 11)
    (bo (σ:=Int) 0 λi next1=>
     aq (decide (i<(m.P.length:Int)))
      (((0:Int)<=i/\i<(m.P.length:Int))/\
      aq (((at' m.P i).length:Int) != (m.N.length:Int))
       (Q 11)
       (bo (σ:=Int) 0 λj next2=>
        ((0:Int)<=i/\i<(m.P.length:Int))/\
        aq (decide (j<((at' m.P i).length:Int)))
         (((0:Int)<=i/\i<(m.P.length:Int))/\
         ((0:Int)<=j/\j<((at' m.P i).length:Int))/\
         lm (at' (at' m.P i) j) λr2=>
         aq (!r2)
          (Q 3)
          (rng (j+1)/\
          next2 (j+1)))
         (rng (i+1)/\
         next1 (i+1))))
      (Q 0))))
def iy (m:GMission) (Q:List GRat->Option Int->Prop):Prop:=
 fN m λerr=>
 aq (isSome err)
  (Q [] err)
  (bo (σ:=Int×Int) (1,0) λ⟨all,x⟩ next1=>
   aq (decide (x<(m.P.length:Int)))
    (rng ((m.N.length:Int)+1)/\
    rng (all*((m.N.length:Int)+1))/\
    aq (decide (4096<(all*((m.N.length:Int)+1))))
     (Q [] (some 4))
     (rng (x+1)/\
     next1 ((all*((m.N.length:Int)+1)),(x+1))))
    (lx 56 (m.N.length:Int) (m.N.length:Int)/\
    bo (σ:=Int×(List GRat)) (0,(bS (m.N.length:Int) (⟨false,[],[]⟩:GRat))) λ⟨x1,out⟩ next2=>
     aq (decide (x1<all))
      (lx 8 (m.P.length:Int) (m.P.length:Int)/\
      bo (σ:=Int×Int×(List Int)) (x1,0,(bS (m.P.length:Int) 0)) λ⟨number,x2,h1⟩ next3=>
       aq (decide (x2<((toNat (m.P.length:Int)):Int)))
        (rng ((m.N.length:Int)+1)/\
        ((m.N.length:Int)+1)≠0/\
        rng ((m.N.length:Int)+1)/\
        (((m.N.length:Int)+1)≠0/\rng (tdiv number ((m.N.length:Int)+1)))/\
        ((0:Int)<=x2/\x2<(h1.length:Int))/\
        rng (x2+1)/\
        next3 ((tdiv number ((m.N.length:Int)+1)),(x2+1),(bu h1 x2 (tmod number ((m.N.length:Int)+1)))))
        (l7 m h1 λr r1=>
        aq (isSome r1)
         (Q [] r1)
         (aq (r == (m.N.length:Int))
          (rng (x1+1)/\
          next2 ((x1+1),out))
          (kK m h1 λr2 r3=>
          aq (isSome r3)
           (Q [] r3)
           (((0:Int)<=r/\r<(out.length:Int))/\
           dr (d9 (at' out r) r2) λr4=>
           ((0:Int)<=r/\r<(out.length:Int))/\
           rng (x1+1)/\
           next2 ((x1+1),(bu out r r4)))))))
      (Q out none)))
def kO (m:GMission) (Q:GRat->Option Int->Prop):Prop:=
 kL m λr r1 r2=>
 aq (isSome r2)
  (Q (⟨false,[],[]⟩:GRat) r2)
  (mQ r r1 λr3 r4=>
  Q r3 r4)
def iQ (m:GMission) (j:Int) (Q:Option Int->Prop):Prop:=
 fN m λerr=>
 aq (isSome err)
  (Q err)
  (df (α:=Bool) (λnext1=>
   aq (decide (j<0))
    (next1 true)
    (next1 (decide ((m.N.length:Int)<=j))))
   λx=>
   aq x
    (Q (some 10))
    (Q none))
def iq (f:GFormula) (Q:GFormula->Prop):Prop:=
 bo (σ:=Int×(List GNode)) (0,[]) λ⟨x,x1⟩ next1=>
  aq (decide (x<(f.V.length:Int)))
   (((0:Int)<=x/\x<(f.V.length:Int))/\
   dr (fy ((at' f.V x).M)) λr=>
   ((x1++[(⟨(at' f.V x).D,(at' f.V x).K,r⟩:GNode)]).length*40<=140737488355328)/\
   rng (x+1)/\
   next1 ((x+1),(x1++[(⟨(at' f.V x).D,(at' f.V x).K,r⟩:GNode)])))
   (Q (⟨f.A,x1,f.F⟩:GFormula))
def na (x:GRat) (Q:GRat->Prop):Prop:=
 dr (cQ x.J) λr=>
 dr (cQ x.L) λr1=>
 Q (⟨x.Y,r,r1⟩:GRat)
def gd (m:GMission) (j:Int) (Q:List GFormula->List (List GRat)->Prop):Prop:=
 iQ m j λerr=>
 aq (isSome err)
  (False)
  (rng (j+1)/\
  ((0:Int)<=0/\0<=(j+1)/\(j+1)<=(m.N.length:Int))/\
  bo (σ:=Int×(List GFormula)) (0,[]) λ⟨x,x1⟩ next1=>
   aq (decide (x<((bf m.N 0 (j+1)).length:Int)))
    (((0:Int)<=x/\x<((bf m.N 0 (j+1)).length:Int))/\
    dr (iq (at' (bf m.N 0 (j+1)) x)) λr=>
    ((x1++[r]).length*40<=140737488355328)/\
    rng (x+1)/\
    next1 ((x+1),(x1++[r])))
    (bo (σ:=Int×(List (List GRat))) (0,([]:List (List GRat))) λ⟨x2,x3⟩ next2=>
     aq (decide (x2<(m.P.length:Int)))
      (((0:Int)<=x2/\x2<(m.P.length:Int))/\
      rng (j+1)/\
      ((0:Int)<=0/\0<=(j+1)/\(j+1)<=((at' m.P x2).length:Int))/\
      bo (σ:=Int×(List GRat)) (0,[]) λ⟨x4,row⟩ next3=>
       aq (decide (x4<((bf (at' m.P x2) 0 (j+1)).length:Int)))
        (((0:Int)<=x4/\x4<((bf (at' m.P x2) 0 (j+1)).length:Int))/\
        na (at' (bf (at' m.P x2) 0 (j+1)) x4) λr1=>
        ((row++[r1]).length*56<=140737488355328)/\
        rng (x4+1)/\
        next3 ((x4+1),(row++[r1])))
        (((x3++[row]).length*24<=140737488355328)/\
        rng (x2+1)/\
        next2 ((x2+1),(x3++[row]))))
      (Q x1 x3)))
def kN (m:GMission) (j:Int) (share:GRat) (Q:GMission->Option Int->Prop):Prop:=
 iQ m j λerr=>
 aq (isSome err)
  (Q (⟨[],[]⟩:GMission) err)
  (rng ((m.N.length:Int)+1)/\
  gr share λr=>
  aq (!r)
   (Q (⟨[],[]⟩:GMission) (some 3))
   (df (α:=Bool) (λnext3=>
    aq (decide (6<((m.N.length:Int)+1)))
     (next3 true)
     (rng (((m.N.length:Int)+1)*(m.P.length:Int))/\
     next3 (decide (24<(((m.N.length:Int)+1)*(m.P.length:Int))))))
    λx=>
    aq x
     (Q (⟨[],[]⟩:GMission) (some 4))
     (rng ((m.N.length:Int)-1)/\
     gd m ((m.N.length:Int)-1) λr1 r2=>
     ((0:Int)<=j/\j<(m.N.length:Int))/\
     dr (iq (at' m.N j)) λr3=>
     ((0:Int)<=j/\j<=(r1.length:Int))/\
     ((r1.length + [r3].length)*40<=140737488355328)/\
     dU 1 λr4=>
     bo (σ:=Int×(List (List GRat))) (0,r2) λ⟨x1,x2⟩ next1=>
      aq (decide (x1<(r2.length:Int)))
       (((0:Int)<=x1/\x1<(x2.length:Int))/\
       ((0:Int)<=j/\j<((at' x2 x1).length:Int))/\
       dr (dl share (at' (at' x2 x1) j)) λr5=>
       ((0:Int)<=j/\j<((at' x2 x1).length:Int))/\
       dr (d8 (at' (at' x2 x1) j) r5) λr6=>
       dr (d8 r4 r5) λr7=>
       zK (gT r6 r7) λr8 r9=>
       df (α:=GRat) (λnext2=>
        aq (isSome r9)
         (next2 (⟨false,[],[]⟩:GRat))
         (next2 r8))
        λx3=>
        ((0:Int)<=j/\j<((at' x2 x1).length:Int))/\
        ((0:Int)<=j/\j<=((bu (at' x2 x1) j x3).length:Int))/\
        (((bu (at' x2 x1) j x3).length + [r5].length)*56<=140737488355328)/\
        ((0:Int)<=x1/\x1<(x2.length:Int))/\
        rng (x1+1)/\
        next1 ((x1+1),(bu x2 x1 (fj (bu (at' x2 x1) j x3) j [r5]))))
       (Q (⟨(fj r1 j [r3]),x2⟩:GMission) none))))
def gJ (m:GMission) (Q:Int->Prop):Prop:=
 bo (σ:=Int×Int) (1,0) λ⟨n,i⟩ next1=>
  d6 m λr=>
  aq (decide (i<r))
   (aq (decide (n<=4096))
    (rng ((m.N.length:Int)+1)/\
    rng (n*((m.N.length:Int)+1))/\
    rng (i+1)/\
    next1 ((n*((m.N.length:Int)+1)),(i+1)))
    (Q n))
   (Q n)
def iV (m:GMission) (j:Int) (share:GRat) (Q:Int->Prop):Prop:=
 aq (decide (j<0))
  (Q 10)
  (aq (decide ((m.N.length:Int)<=j))
   (Q 10)
   (lm share λr=>
   aq (!r)
    (Q 3)
    (aq ((m.N.length:Int) == 6)
     (Q 4)
     (dr (d6 m) λr1=>
     rng ((m.N.length:Int)+1)/\
     rng (r1*((m.N.length:Int)+1))/\
     aq (decide (24<(r1*((m.N.length:Int)+1))))
      (Q 4)
      (Q 0)))))
def j0 (m:GMission) (j:Int) (share:GRat) (Q:GMission->Prop):Prop:=
 rng (j+1)/\
 ((0:Int)<=0/\0<=(j+1)/\(j+1)<=(m.N.length:Int))/\
 ((bf m.N 0 (j+1)).length*40<=140737488355328)/\
 ((0:Int)<=j/\j<=(m.N.length:Int)/\(m.N.length:Int)<=(m.N.length:Int))/\
 (((bf m.N 0 (j+1))++(bf m.N j (m.N.length:Int))).length*40<=140737488355328)/\
 jP 1 λr=>
 bo (σ:=Int×(List (List GRat))) (0,[]) λ⟨i,x⟩ next1=>
  aq (decide (i<(m.P.length:Int)))
   (((0:Int)<=i/\i<(m.P.length:Int))/\
   ((0:Int)<=j/\j<((at' m.P i).length:Int))/\
   dr (ko share (at' (at' m.P i) j)) λr1=>
   df (α:=GRat) (λnext2=>
    i5 r1 r λr2=>
    aq (r2 != 0)
     (((0:Int)<=i/\i<(m.P.length:Int))/\
     ((0:Int)<=j/\j<((at' m.P i).length:Int))/\
     dr (gS (at' (at' m.P i) j) r1) λr3=>
     dr (gS r r1) λr4=>
     zK (kp r3 r4) λr5 _=>
     next2 r5)
     (next2 (⟨false,[],[]⟩:GRat)))
    λx1=>
    ((0:Int)<=i/\i<(m.P.length:Int))/\
    ((0:Int)<=0/\0<=j/\j<=((at' m.P i).length:Int))/\
    ((bf (at' m.P i) 0 j).length*56<=140737488355328)/\
    (((bf (at' m.P i) 0 j)++[r1,x1]).length*56<=140737488355328)/\
    ((0:Int)<=i/\i<(m.P.length:Int))/\
    rng (j+1)/\
    ((0:Int)<=(j+1)/\(j+1)<=((at' m.P i).length:Int)/\((at' m.P i).length:Int)<=((at' m.P i).length:Int))/\
    ((((bf (at' m.P i) 0 j)++[r1,x1])++(bf (at' m.P i) (j+1) ((at' m.P i).length:Int))).length*56<=140737488355328)/\
    ((x++[(((bf (at' m.P i) 0 j)++[r1,x1])++(bf (at' m.P i) (j+1) ((at' m.P i).length:Int)))]).length*24<=140737488355328)/\
    rng (i+1)/\
    next1 ((i+1),(x++[(((bf (at' m.P i) 0 j)++[r1,x1])++(bf (at' m.P i) (j+1) ((at' m.P i).length:Int)))])))
   (Q (⟨((bf m.N 0 (j+1))++(bf m.N j (m.N.length:Int))),x⟩:GMission))
def iu (n:Int) (d:Int) (Q:GRat->Prop):Prop:=
 lq n d λr _=>
 Q r
def iR (Q:GMission->Prop):Prop:=
 iu 1 2 λr=>
 Q (⟨[(⟨2,[(⟨2,0,[0,1]⟩:GNode)],2⟩:GFormula),(⟨2,[(⟨3,0,[0,1]⟩:GNode)],2⟩:GFormula)],[[r,r],[r,r]]⟩:GMission)
def j8 (Q:Bool->Prop):Prop:=
 iR λr=>
 iy r λr1 r2=>
 iR λr3=>
 kO r3 λr4 r5=>
 aq (isNone r2)
  (aq (isNone r5)
   (dr (iu 15 16) λr6=>
   dr (n8 r4 r6) λr7=>
   aq r7
    (dr (iu 1 4) λr8=>
    dr (iu 11 16) λr9=>
    dr (kE r1 [r8,r9]) λr10=>
    Q r10)
    (Q false))
   (Q false))
  (Q false)
def nb (m:GMission) (Q:Bool->Prop):Prop:=
 aq (decide (20<(m.N.length:Int)))
  (Q true)
  (aq (decide (50<(m.P.length:Int)))
   (Q true)
   (bo (σ:=Int) 0 λi next1=>
    aq (decide (i<(m.P.length:Int)))
     (((0:Int)<=i/\i<(m.P.length:Int))/\
     aq (decide (50<((at' m.P i).length:Int)))
      (Q true)
      (bo (σ:=Int) 0 λj next2=>
       ((0:Int)<=i/\i<(m.P.length:Int))/\
       aq (decide (j<((at' m.P i).length:Int)))
        (((0:Int)<=i/\i<(m.P.length:Int))/\
        ((0:Int)<=j/\j<((at' m.P i).length:Int))/\
        aq (decide (4<(((at' (at' m.P i) j).J).length:Int)))
         (Q true)
         (((0:Int)<=i/\i<(m.P.length:Int))/\
         ((0:Int)<=j/\j<((at' m.P i).length:Int))/\
         aq (decide (4<(((at' (at' m.P i) j).L).length:Int)))
          (Q true)
          (rng (j+1)/\
          next2 (j+1))))
        (rng (i+1)/\
        next1 (i+1))))
     (j3 m λr=>
     aq (r == 0)
      (gJ m λr1=>
      aq (decide (300<r1))
       (gJ m λr2=>
       Q (decide (r2<=4096)))
       (Q false))
      (Q false))))
def jx (a:GMission) (b:GMission) (Q:Bool->Prop):Prop:=
 aq ((a.N.length:Int) != (b.N.length:Int))
  (Q false)
  (aq ((a.P.length:Int) != (b.P.length:Int))
   (Q false)
   (bo (σ:=Int) 0 λj next1=>
    aq (decide (j<(a.N.length:Int)))
     (((0:Int)<=j/\j<(a.N.length:Int))/\
     ((0:Int)<=j/\j<(b.N.length:Int))/\
     dr (ml (at' a.N j) (at' b.N j)) λr=>
     aq (!r)
      (Q false)
      (rng (j+1)/\
      next1 (j+1)))
     (bo (σ:=Int) 0 λi next2=>
      aq (decide (i<(a.P.length:Int)))
       (((0:Int)<=i/\i<(a.P.length:Int))/\
       ((0:Int)<=i/\i<(b.P.length:Int))/\
       dr (kE (at' a.P i) (at' b.P i)) λr1=>
       aq (!r1)
        (Q false)
        (rng (i+1)/\
        next2 (i+1)))
       (Q true))))
def jL (m:GMission) (j:Int) (share:GRat) (Q:Bool->Prop):Prop:=
 df (α:=Bool) (λnext2=>
  j8 λr7=>
  aq (!r7)
   (next2 true)
   (nb m λr8=>
   aq r8
    (next2 true)
    (aq (decide (4<(share.J.length:Int)))
     (next2 true)
     (next2 (decide (4<(share.L.length:Int)))))))
  λx=>
  aq x
   (j8 λr=>
   Q r)
   (kN m j share λr1 r2=>
   j3 m λcode=>
   df (α:=Int) (λnext1=>
    aq (code == 0)
     (iV m j share λcode2=>
     next1 code2)
     (next1 code))
    λcode1=>
    aq (code1 != 0)
     (jx r1 (⟨[],[]⟩:GMission) λr3=>
     aq r3
      (n9 r2 λr4=>
      Q (r4 == code1))
      (Q false))
     (aq (isNone r2)
      (dr (j0 m j share) λr5=>
      dr (jx r1 r5) λr6=>
      Q r6)
      (Q false)))
end Go.Gg
