/- The structures of the program and how they are encoded. Conditions: none. -/
import Derived.Test.YtcmagbhiioheeaaGreatGc
import Derived.Test.YtcmagbhiioheeaaGreatGd
open Int (tdiv tmod toNat)
open Go.IntKind (wrap)
open Option (getD isNone isSome)
namespace Go.Gg
structure GNode where
 D:Int
 K:Int
 M:List Int
instance:Inhabited GNode:=⟨⟨0,0,[]⟩⟩
def aV (r:GNode):AV:=.agg [.int .i64 r.D,.int .i64 r.K,eL (AV.int .i64) r.M]
structure GFormula where
 A:Int
 V:List GNode
 F:Int
instance:Inhabited GFormula:=⟨⟨0,[],0⟩⟩
def am (r:GFormula):AV:=.agg [.int .i64 r.A,eL aV r.V,.int .i64 r.F]
structure GRat where
 Y:Bool
 J:List Int
 L:List Int
instance:Inhabited GRat:=⟨⟨false,[],[]⟩⟩
def aq (r:GRat):AV:=.agg [.bool r.Y,eL (AV.int .u32) r.J,eL (AV.int .u32) r.L]
structure GMission where
 N:List GFormula
 P:List (List GRat)
instance:Inhabited GMission:=⟨⟨[],[]⟩⟩
def az (r:GMission):AV:=.agg [eL am r.N,eL (eL aq) r.P]
structure GDNode where
 H:Int
 W:Int
 X:Int
instance:Inhabited GDNode:=⟨⟨0,0,0⟩⟩
def aX (r:GDNode):AV:=.agg [.int .i64 r.H,.int .i64 r.W,.int .i64 r.X]
structure GDiagram where
 Order:List Int
 V:List GDNode
 Z:Int
instance:Inhabited GDiagram:=⟨⟨[],[],0⟩⟩
def fU (r:GDiagram):AV:=.agg [eL (AV.int .i64) r.Order,eL aX r.V,.int .i64 r.Z]
structure Gwalk where
 Formula:GFormula
 events:List Int
 seen:List Bool
instance:Inhabited Gwalk:=⟨⟨default,[],[]⟩⟩
def ij:ByteArray:=⟨#[0,1,2,2,3,3,3,3,4,4,4,4,4,4,4,4,5,5,5,5,5,5,5,5,5,5,5,5,5,5,5,5,6,6,6,6,6,6,6,6,6,6,6,6,6,6,6,6,6,6,6,6,6,6,6,6,6,6,6,6,6,6,6,6,7,7,7,7,7,7,7,7,7,7,7,7,7,7,7,7,7,7,7,7,7,7,7,7,7,7,7,7,7,7,7,7,7,7,7,7,7,7,7,7,7,7,7,7,7,7,7,7,7,7,7,7,7,7,7,7,7,7,7,7,7,7,7,7,8,8,8,8,8,8,8,8,8,8,8,8,8,8,8,8,8,8,8,8,8,8,8,8,8,8,8,8,8,8,8,8,8,8,8,8,8,8,8,8,8,8,8,8,8,8,8,8,8,8,8,8,8,8,8,8,8,8,8,8,8,8,8,8,8,8,8,8,8,8,8,8,8,8,8,8,8,8,8,8,8,8,8,8,8,8,8,8,8,8,8,8,8,8,8,8,8,8,8,8,8,8,8,8,8,8,8,8,8,8,8,8,8,8,8,8,8,8,8,8,8,8,8,8,8,8,8,8]⟩
def b_ (a:List Int) (Q:List Int->Prop):Prop:=
 dt (α:=Int) (λnext1=>
  bn (σ:=Int) (a.length:Int) λn1 next2=>
   an (decide (0<n1))
    (rng (n1-1)/\
    ((0:Int)<=(n1-1)/\(n1-1)<(a.length:Int))/\
    an ((at' a (n1-1)) == 0)
     (rng (n1-1)/\
     next2 (n1-1))
     (next1 n1))
    (next1 n1))
  λn=>
  an (n == 0)
   (Q [])
   (((0:Int)<=0/\0<=n/\n<=(a.length:Int))/\
   ((([]:List Int)++(cg a 0 n)).length*4<=140737488355328)/\
   Q (([]:List Int)++(cg a 0 n)))
def dX (a:List Int) (b:List Int) (Q:Int->Prop):Prop:=
 b_ a λa1=>
 b_ b λb1=>
 an ((a1.length:Int) != (b1.length:Int))
  (an (decide ((a1.length:Int)<(b1.length:Int)))
   (Q (-1))
   (Q 1))
  (rng ((a1.length:Int)-1)/\
  bn (σ:=Int) ((a1.length:Int)-1) λi next1=>
   an (decide (0<=i))
    (((0:Int)<=i/\i<(a1.length:Int))/\
    ((0:Int)<=i/\i<(b1.length:Int))/\
    an (decide ((at' a1 i)<(at' b1 i)))
     (Q (-1))
     (((0:Int)<=i/\i<(a1.length:Int))/\
     ((0:Int)<=i/\i<(b1.length:Int))/\
     an (decide ((at' b1 i)<(at' a1 i)))
      (Q 1)
      (rng (i-1)/\
      next1 (i-1))))
    (Q 0))
def lD (n:Int) (Q:List Int->Prop):Prop:=
 an (decide (n<=0))
  (Q [])
  (b_ [(wrap .u32 n),(wrap .u32 (n / 2^(toNat 32)))] λr=>
  Q r)
def iV (a:List Int) (b:Int) (Q:List Int->Int->Prop):Prop:=
 kV 4 (a.length:Int) (a.length:Int)/\
 rng ((a.length:Int)-1)/\
 bn (σ:=Int×Int×(List Int)) (0,((a.length:Int)-1),(bT (a.length:Int) 0)) λ⟨rest,i,out⟩ next1=>
  an (decide (0<=i))
   (((0:Int)<=i/\i<(a.length:Int))/\
   lq (bits .or .u64 (wrap .u64 (rest*2^(toNat 32))) (wrap .u64 (at' a i))) λrest1=>
   (wrap .u64 b)≠0/\
   ((0:Int)<=i/\i<(out.length:Int))/\
   (wrap .u64 b)≠0/\
   rng (i-1)/\
   next1 ((tmod rest1 (wrap .u64 b)),(i-1),(bu out i (wrap .u32 (wrap .u64 (tdiv rest1 (wrap .u64 b)))))))
   (b_ out λr=>
   Q r (wrap .u32 rest))
def gJ (x:Int) (Q:Int->Prop):Prop:=
 dt (α:=Int×Int) (λnext2=>
  an (decide (65536<=x))
   (next2 ((x / 2^(toNat 16)),16))
   (next2 (x,0)))
  λ⟨x1,n⟩=>
  dt (α:=Int×Int) (λnext1=>
   an (decide (256<=x1))
    (rng (n+8)/\
    next1 ((x1 / 2^(toNat 8)),(n+8)))
    (next1 (x1,n)))
   λ⟨x2,n1⟩=>
   ((0:Int)<=(wrap .u8 x2)/\(wrap .u8 x2)<(ij.size:Int))/\
   rng (n1+(wrap .i64 (qO ij (toNat (wrap .u8 x2)))))/\
   lq (n1+(wrap .i64 (qO ij (toNat (wrap .u8 x2))))) λn2=>
   Q n2
def e_ (x:Int) (Q:Int->Prop):Prop:=
 gJ x λr=>
 rng (32-r)/\
 Q (32-r)
def e8 (a:List Int) (n:Int) (Q:List Int->Prop):Prop:=
 rng ((a.length:Int)+1)/\
 kV 4 ((a.length:Int)+1) ((a.length:Int)+1)/\
 bn (σ:=Int×(List Int)) (0,(bT ((a.length:Int)+1) 0)) λ⟨x,out⟩ next1=>
  an (decide (x<(a.length:Int)))
   (((0:Int)<=x/\x<(a.length:Int))/\
   ((0:Int)<=n/\n<=64)/\
   lq (wrap .u64 ((wrap .u64 (at' a x))*2^(toNat n))) λy1=>
   ((0:Int)<=x/\x<(out.length:Int))/\
   ((0:Int)<=x/\x<(out.length:Int))/\
   rng (x+1)/\
   ((0:Int)<=(x+1)/\(x+1)<(out.length:Int))/\
   rng (x+1)/\
   next1 ((x+1),(bu (bu out x (bits .or .u32 (at' out x) (wrap .u32 y1))) (x+1) (wrap .u32 (y1 / 2^(toNat 32))))))
   (Q out)
def c6 (a:List Int) (i:Int) (Q:Int->Prop):Prop:=
 an (decide (i<(a.length:Int)))
  (((0:Int)<=i/\i<(a.length:Int))/\
  Q (wrap .u64 (at' a i)))
  (Q 0)
def ma (u:List Int) (uo:Nat) (ul:Nat) (v:List Int) (n:Int) (Q:List Int->Bool->Prop):Prop:=
 bn (σ:=Int×Int×Int×(List Int)) (0,0,0,u) λ⟨carry,borrow,x,u1⟩ next1=>
  an (decide (x<(ul:Int)))
   (c6 v x λr=>
   lq (wrap .u64 (carry+(wrap .u64 (n*r)))) λcarry1=>
   ((0:Int)<=x/\x<(ul:Int))/\
   (toNat ((uo:Int)+x))<u1.length/\
   lq (wrap .u64 ((wrap .u64 ((wrap .u64 (at' u1 ((uo:Int)+x)))-(wrap .u64 (wrap .u32 carry1))))-borrow)) λd=>
   ((0:Int)<=x/\x<(ul:Int))/\
   (toNat ((uo:Int)+x))<u1.length/\
   rng (x+1)/\
   next1 ((carry1 / 2^(toNat 32)),(d / 2^(toNat 63)),(x+1),(bu u1 ((uo:Int)+x) (wrap .u32 d))))
   (Q u1 (borrow == 1))
def mb (u:List Int) (uo:Nat) (ul:Nat) (v:List Int) (Q:List Int->Prop):Prop:=
 bn (σ:=Int×Int×(List Int)) (0,0,u) λ⟨carry,x,u1⟩ next1=>
  an (decide (x<(ul:Int)))
   (((0:Int)<=x/\x<(ul:Int))/\
   (toNat ((uo:Int)+x))<u1.length/\
   ee (c6 v x) λr=>
   ((0:Int)<=x/\x<(ul:Int))/\
   (toNat ((uo:Int)+x))<u1.length/\
   lq ((wrap .u64 (carry+(wrap .u64 ((wrap .u64 (at' u1 ((uo:Int)+x)))+r)))) / 2^(toNat 32)) λcarry1=>
   rng (x+1)/\
   next1 (carry1,(x+1),(bu u1 ((uo:Int)+x) (wrap .u32 (wrap .u64 (carry+(wrap .u64 ((wrap .u64 (at' u1 ((uo:Int)+x)))+r))))))))
   (Q u1)
def iW (a:List Int) (n:Int) (Q:List Int->Prop):Prop:=
 kV 4 (a.length:Int) (a.length:Int)/\
 bn (σ:=Int×(List Int)) (0,(bT (a.length:Int) 0)) λ⟨x,out⟩ next1=>
  an (decide (x<(a.length:Int)))
   (c6 a x λr=>
   rng (x+1)/\
   c6 a (x+1) λr1=>
   ((0:Int)<=n/\n<=64)/\
   ((0:Int)<=x/\x<(out.length:Int))/\
   rng (x+1)/\
   next1 ((x+1),(bu out x (wrap .u32 ((bits .or .u64 r (wrap .u64 (r1*2^(toNat 32)))) / 2^(toNat n))))))
   (Q out)
def iO (a:List Int) (b:List Int) (Q:List Int->List Int->Option Int->Prop):Prop:=
 b_ a λa1=>
 b_ b λb1=>
 an ((b1.length:Int) == 0)
  (Q [] [] (some 8))
  (dX a1 b1 λr=>
  an (decide (r<0))
   (Q [] a1 none)
   (an ((b1.length:Int) == 1)
    (((0:Int)<=0/\0<(b1.length:Int))/\
    iV a1 (at' b1 0) λr1 r2=>
    lD (wrap .i64 r2) λr3=>
    Q r1 r3 none)
    (rng ((b1.length:Int)-1)/\
    ((0:Int)<=((b1.length:Int)-1)/\((b1.length:Int)-1)<(b1.length:Int))/\
    e_ (at' b1 ((b1.length:Int)-1)) λn=>
    e8 b1 n λr4=>
    ((0:Int)<=0/\0<=(b1.length:Int)/\(b1.length:Int)<=(r4.length:Int))/\
    lq (cg r4 0 (b1.length:Int)) λv=>
    e8 a1 n λu=>
    rng ((v.length:Int)-1)/\
    ((0:Int)<=((v.length:Int)-1)/\((v.length:Int)-1)<(v.length:Int))/\
    rng ((v.length:Int)-2)/\
    ((0:Int)<=((v.length:Int)-2)/\((v.length:Int)-2)<(v.length:Int))/\
    rng ((u.length:Int)-(v.length:Int))/\
    kV 4 ((u.length:Int)-(v.length:Int)) ((u.length:Int)-(v.length:Int))/\
    rng (((toNat ((u.length:Int)-(v.length:Int))):Int)-1)/\
    lq (((toNat ((u.length:Int)-(v.length:Int))):Int)-1) λj=>
    bn (σ:=Int×(List Int)×(List Int)) (j,u,(bT ((u.length:Int)-(v.length:Int)) 0)) λ⟨j1,u1,q⟩ next1=>
     an (decide (0<=j1))
      (rng (j1+(v.length:Int))/\
      ((0:Int)<=(j1+(v.length:Int))/\(j1+(v.length:Int))<(u1.length:Int))/\
      rng (j1+(v.length:Int))/\
      rng ((j1+(v.length:Int))-1)/\
      ((0:Int)<=((j1+(v.length:Int))-1)/\((j1+(v.length:Int))-1)<(u1.length:Int))/\
      (wrap .u64 (at' v ((v.length:Int)-1)))≠0/\
      (wrap .u64 (at' v ((v.length:Int)-1)))≠0/\
      dt (α:=Int) (λnext3=>
       bn (σ:=Int×Int) ((wrap .u64 (tdiv (bits .or .u64 (wrap .u64 ((wrap .u64 (at' u1 (j1+(v.length:Int))))*2^(toNat 32))) (wrap .u64 (at' u1 ((j1+(v.length:Int))-1)))) (wrap .u64 (at' v ((v.length:Int)-1))))),(tmod (bits .or .u64 (wrap .u64 ((wrap .u64 (at' u1 (j1+(v.length:Int))))*2^(toNat 32))) (wrap .u64 (at' u1 ((j1+(v.length:Int))-1)))) (wrap .u64 (at' v ((v.length:Int)-1))))) λ⟨guess2,rest⟩ next4=>
        dt (α:=Unit) (λnext5=>
         an (decide (4294967296<=guess2))
          (next5 ())
          (rng (j1+(v.length:Int))/\
          rng ((j1+(v.length:Int))-2)/\
          ((0:Int)<=((j1+(v.length:Int))-2)/\((j1+(v.length:Int))-2)<(u1.length:Int))/\
          an (decide ((bits .or .u64 (wrap .u64 (rest*2^(toNat 32))) (wrap .u64 (at' u1 ((j1+(v.length:Int))-2))))<(wrap .u64 (guess2*(wrap .u64 (at' v ((v.length:Int)-2)))))))
           (next5 ())
           (next3 guess2)))
         λ_=>
         lq (wrap .u64 (rest+(wrap .u64 (at' v ((v.length:Int)-1))))) λrest1=>
         an (decide (4294967296<=rest1))
          (next3 (wrap .u64 (guess2-1)))
          (next4 ((wrap .u64 (guess2-1)),rest1)))
       λguess=>
       dt (α:=Int×(List Int)) (λnext2=>
        rng (j1+(v.length:Int))/\
        rng ((j1+(v.length:Int))+1)/\
        ((0:Int)<=j1/\j1<=((j1+(v.length:Int))+1)/\((j1+(v.length:Int))+1)<=(u1.length:Int))/\
        ma u1 (0+toNat j1) (toNat ((j1+(v.length:Int))+1)-toNat j1) v guess λu3 r5=>
        u3.length=u1.length/\
        an r5
         (rng (j1+(v.length:Int))/\
         rng ((j1+(v.length:Int))+1)/\
         ((0:Int)<=j1/\j1<=((j1+(v.length:Int))+1)/\((j1+(v.length:Int))+1)<=(u1.length:Int))/\
         mb u3 (0+toNat j1) (toNat ((j1+(v.length:Int))+1)-toNat j1) v λu4=>
         u4.length=u3.length/\
         next2 ((wrap .u64 (guess-1)),u4))
         (next2 (guess,u3)))
        λ⟨guess1,u2⟩=>
        ((0:Int)<=j1/\j1<(q.length:Int))/\
        rng (j1-1)/\
        next1 ((j1-1),u2,(bu q j1 (wrap .u32 guess1))))
      (b_ q λq1=>
      iW u1 n λr6=>
      b_ r6 λr7=>
      Q q1 r7 none))))
def ko (a:List Int) (b:List Int) (Q:List Int->Prop):Prop:=
 b_ a λa1=>
 b_ b λb1=>
 bn (σ:=(List Int)×(List Int)) (a1,b1) λ⟨a2,b2⟩ next1=>
  an (decide (0<(b2.length:Int)))
   (iO a2 b2 λ_ r1 _=>
   next1 (b2,r1))
   (Q a2)
def mc (a:List Int) (Q:Int->Prop):Prop:=
 rng ((a.length:Int)-1)/\
 bn (σ:=Int) ((a.length:Int)-1) λi next1=>
  an (decide (0<=i))
   (((0:Int)<=i/\i<(a.length:Int))/\
   an ((at' a i) != 0)
    (rng (32*i)/\
    ((0:Int)<=i/\i<(a.length:Int))/\
    gJ (at' a i) λr=>
    rng ((32*i)+r)/\
    Q ((32*i)+r))
    (rng (i-1)/\
    next1 (i-1)))
   (Q 0)
def di (a:List Int) (b:List Int) (Q:List Int->Prop):Prop:=
 rng ((a.length:Int)+(b.length:Int))/\
 kV 4 ((a.length:Int)+(b.length:Int)) ((a.length:Int)+(b.length:Int))/\
 bn (σ:=Int×(List Int)) (0,(bT ((a.length:Int)+(b.length:Int)) 0)) λ⟨x,out⟩ next1=>
  an (decide (x<(a.length:Int)))
   (((0:Int)<=x/\x<(a.length:Int))/\
   bn (σ:=Int×Int×(List Int)) (0,0,out) λ⟨carry,x1,out1⟩ next2=>
    an (decide (x1<(b.length:Int)))
     (((0:Int)<=x1/\x1<(b.length:Int))/\
     rng (x+x1)/\
     ((0:Int)<=(x+x1)/\(x+x1)<(out1.length:Int))/\
     lq (wrap .u64 (carry+(wrap .u64 ((wrap .u64 ((wrap .u64 (at' a x))*(wrap .u64 (at' b x1))))+(wrap .u64 (at' out1 (x+x1))))))) λcarry1=>
     rng (x+x1)/\
     ((0:Int)<=(x+x1)/\(x+x1)<(out1.length:Int))/\
     rng (x1+1)/\
     next2 ((carry1 / 2^(toNat 32)),(x1+1),(bu out1 (x+x1) (wrap .u32 carry1))))
     (rng (x+(b.length:Int))/\
     ((0:Int)<=(x+(b.length:Int))/\(x+(b.length:Int))<(out1.length:Int))/\
     rng (x+1)/\
     next1 ((x+1),(bu out1 (x+(b.length:Int)) (wrap .u32 carry)))))
   (b_ out λr=>
   Q r)
def kp (a:List Int) (b:List Int) (Q:List Int->Prop):Prop:=
 rng ((max (a.length:Int) (b.length:Int))+1)/\
 kV 4 ((max (a.length:Int) (b.length:Int))+1) ((max (a.length:Int) (b.length:Int))+1)/\
 bn (σ:=Int×Int×(List Int)) (0,0,(bT ((max (a.length:Int) (b.length:Int))+1) 0)) λ⟨carry,x,out⟩ next1=>
  an (decide (x<((toNat ((max (a.length:Int) (b.length:Int))+1)):Int)))
   (c6 a x λr=>
   c6 b x λr1=>
   lq (wrap .u64 (carry+(wrap .u64 (r+r1)))) λcarry1=>
   ((0:Int)<=x/\x<(out.length:Int))/\
   rng (x+1)/\
   next1 ((carry1 / 2^(toNat 32)),(x+1),(bu out x (wrap .u32 carry1))))
   (b_ out λr2=>
   Q r2)
def kn (a:List Int) (b:List Int) (Q:List Int->Option Int->Prop):Prop:=
 dX a b λr=>
 an (decide (r<0))
  (Q [] (some 3))
  (kV 4 (a.length:Int) (a.length:Int)/\
  bn (σ:=Int×Int×(List Int)) (0,0,(bT (a.length:Int) 0)) λ⟨borrow,x,out⟩ next1=>
   an (decide (x<((toNat (a.length:Int)):Int)))
    (c6 a x λr1=>
    c6 b x λr2=>
    lq (wrap .u64 ((wrap .u64 (r1-r2))-borrow)) λd=>
    ((0:Int)<=x/\x<(out.length:Int))/\
    rng (x+1)/\
    next1 ((d / 2^(toNat 63)),(x+1),(bu out x (wrap .u32 d))))
    (b_ out λr3=>
    Q r3 none))
def jv (a:List Int) (Q:Int->Prop):Prop:=
 bn (σ:=Int×Int) (0,0) λ⟨n,x⟩ next1=>
  an (decide (x<(a.length:Int)))
   (((0:Int)<=x/\x<(a.length:Int))/\
   bn (σ:=Int×Int) (n,0) λ⟨n1,x1⟩ next2=>
    an (decide (x1<32))
     (((0:Int)<=x1/\x1<=32)/\
     an ((bits .and .u32 ((at' a x) / 2^(toNat x1)) 1) == 1)
      (rng (32*x)/\
      rng ((32*x)+x1)/\
      rng (((32*x)+x1)+1)/\
      rng (x1+1)/\
      next2 ((((32*x)+x1)+1),(x1+1)))
      (rng (x1+1)/\
      next2 (n1,(x1+1))))
     (rng (x+1)/\
     next1 (n1,(x+1))))
   (Q n)
def c7 (a:List Int) (Q:List Int->Prop):Prop:=
 dt (α:=Int) (λnext1=>
  bn (σ:=Int) (a.length:Int) λn1 next2=>
   an (decide (0<n1))
    (rng (n1-1)/\
    ((0:Int)<=(n1-1)/\(n1-1)<(a.length:Int))/\
    an ((at' a (n1-1)) == 0)
     (rng (n1-1)/\
     next2 (n1-1))
     (next1 n1))
    (next1 n1))
  λn=>
  ((0:Int)<=0/\0<=n/\n<=(a.length:Int))/\
  ((([]:List Int)++(cg a 0 n)).length*4<=140737488355328)/\
  Q (([]:List Int)++(cg a 0 n))
def cr (a:List Int) (i:Int) (Q:Int->Prop):Prop:=
 an (decide (i<(a.length:Int)))
  (((0:Int)<=i/\i<(a.length:Int))/\
  Q (wrap .u64 (at' a i)))
  (Q 0)
def gV (a:List Int) (b:List Int) (Q:List Int->Prop):Prop:=
 rng ((a.length:Int)+(b.length:Int))/\
 rng (((a.length:Int)+(b.length:Int))+1)/\
 kV 4 (((a.length:Int)+(b.length:Int))+1) (((a.length:Int)+(b.length:Int))+1)/\
 bn (σ:=Int×(List Int)) (0,(bT (((a.length:Int)+(b.length:Int))+1) 0)) λ⟨x,out⟩ next1=>
  an (decide (x<(a.length:Int)))
   (((0:Int)<=x/\x<(a.length:Int))/\
   rng ((b.length:Int)+1)/\
   bn (σ:=Int×Int×(List Int)) (0,0,out) λ⟨carry,x1,out1⟩ next2=>
    an (decide (x1<((b.length:Int)+1)))
     (ee (cr b x1) λr=>
     rng (x+x1)/\
     ((0:Int)<=(x+x1)/\(x+x1)<(out1.length:Int))/\
     rng (x+x1)/\
     ((0:Int)<=(x+x1)/\(x+x1)<(out1.length:Int))/\
     lq ((wrap .u64 ((wrap .u64 ((wrap .u64 ((wrap .u64 (at' a x))*r))+(wrap .u64 (at' out1 (x+x1)))))+carry)) / 2^(toNat 32)) λcarry1=>
     rng (x1+1)/\
     next2 (carry1,(x1+1),(bu out1 (x+x1) (wrap .u32 (wrap .u64 ((wrap .u64 ((wrap .u64 ((wrap .u64 (at' a x))*r))+(wrap .u64 (at' out1 (x+x1)))))+carry))))))
     (rng (x+1)/\
     next1 ((x+1),out1)))
   (c7 out λr1=>
   Q r1)
def jc (a:List Int) (b:List Int) (Q:Int->Prop):Prop:=
 rng ((max (a.length:Int) (b.length:Int))-1)/\
 lq ((max (a.length:Int) (b.length:Int))-1) λi=>
 bn (σ:=Int) i λi1 next1=>
  an (decide (0<=i1))
   (cr a i1 λr=>
   cr b i1 λr1=>
   an (decide (r<r1))
    (Q (-1))
    (cr a i1 λr2=>
    cr b i1 λr3=>
    an (decide (r3<r2))
     (Q 1)
     (rng (i1-1)/\
     next1 (i1-1))))
   (Q 0)
def kD (a:List Int) (b:List Int) (Q:List Int->Int->Prop):Prop:=
 jc a b λr=>
 an (decide (r<0))
  (Q [] 3)
  (bn (σ:=Int×Int×(List Int)) (0,0,[]) λ⟨borrow,x,out⟩ next1=>
   an (decide (x<(a.length:Int)))
    (cr a x λr1=>
    cr b x λr2=>
    lq (wrap .u64 ((wrap .u64 (r1-r2))-borrow)) λs=>
    ((out++[(wrap .u32 s)]).length*4<=140737488355328)/\
    rng (x+1)/\
    next1 ((s / 2^(toNat 63)),(x+1),(out++[(wrap .u32 s)])))
    (c7 out λr3=>
    Q r3 0))
def n_ (a:List Int) (s:Int) (Q:List Int->Prop):Prop:=
 bn (σ:=Int×Int×(List Int)) (0,0,[]) λ⟨carry,x,out⟩ next1=>
  an (decide (x<(a.length:Int)))
   (((0:Int)<=x/\x<(a.length:Int))/\
   ((0:Int)<=s/\s<=64)/\
   lq (bits .or .u64 carry (wrap .u64 ((wrap .u64 (at' a x))*2^(toNat s)))) λcarry1=>
   ((out++[(wrap .u32 carry1)]).length*4<=140737488355328)/\
   rng (x+1)/\
   next1 ((carry1 / 2^(toNat 32)),(x+1),(out++[(wrap .u32 carry1)])))
   (((out++[(wrap .u32 carry)]).length*4<=140737488355328)/\
   c7 (out++[(wrap .u32 carry)]) λr=>
   Q r)
def ly (a:List Int) (s:Int) (Q:List Int->Prop):Prop:=
 bn (σ:=Int×(List Int)) (0,[]) λ⟨x,out⟩ next1=>
  an (decide (x<(a.length:Int)))
   (cr a x λr=>
   rng (x+1)/\
   cr a (x+1) λr1=>
   ((0:Int)<=s/\s<=64)/\
   ((out++[(wrap .u32 ((bits .or .u64 r (wrap .u64 (r1*2^(toNat 32)))) / 2^(toNat s)))]).length*4<=140737488355328)/\
   rng (x+1)/\
   next1 ((x+1),(out++[(wrap .u32 ((bits .or .u64 r (wrap .u64 (r1*2^(toNat 32)))) / 2^(toNat s)))])))
   (c7 out λr2=>
   Q r2)
def kE (a:List Int) (b:List Int) (Q:List Int->List Int->Int->Prop):Prop:=
 c7 b λb1=>
 an ((b1.length:Int) == 0)
  (Q [] [] 8)
  (bn (σ:=Int) 0 λs next1=>
   rng ((b1.length:Int)-1)/\
   ((0:Int)<=((b1.length:Int)-1)/\((b1.length:Int)-1)<(b1.length:Int))/\
   ((0:Int)<=s/\s<=32)/\
   an ((bits .and .u32 (wrap .u32 ((at' b1 ((b1.length:Int)-1))*2^(toNat s))) 2147483648) == 0)
    (rng (s+1)/\
    next1 (s+1))
    (n_ a s λa1=>
    n_ b1 s λb2=>
    kV 4 (a1.length:Int) (a1.length:Int)/\
    rng ((a1.length:Int)-(b1.length:Int))/\
    rng (((a1.length:Int)-(b1.length:Int))+1)/\
    ((0:Int)<=(max 0 (((a1.length:Int)-(b1.length:Int))+1))/\(max 0 (((a1.length:Int)-(b1.length:Int))+1))<=(a1.length:Int)/\(a1.length:Int)<=(a1.length:Int))/\
    ((([]:List Int)++(cg a1 (max 0 (((a1.length:Int)-(b1.length:Int))+1)) (a1.length:Int))).length*4<=140737488355328)/\
    rng ((a1.length:Int)-(b1.length:Int))/\
    bn (σ:=(List Int)×Int×(List Int)) ((([]:List Int)++(cg a1 (max 0 (((a1.length:Int)-(b1.length:Int))+1)) (a1.length:Int))),((a1.length:Int)-(b1.length:Int)),(bT (a1.length:Int) 0)) λ⟨r,i,q⟩ next2=>
     an (decide (0<=i))
      (((0:Int)<=i/\i<(a1.length:Int))/\
      (([(at' a1 i)]++r).length*4<=140737488355328)/\
      c7 ([(at' a1 i)]++r) λr1=>
      cr r1 (b1.length:Int) λr2=>
      rng ((b1.length:Int)-1)/\
      cr r1 ((b1.length:Int)-1) λr3=>
      rng ((b1.length:Int)-1)/\
      cr b2 ((b1.length:Int)-1) λr4=>
      r4≠0/\
      lq (min (wrap .u64 (tdiv (bits .or .u64 (wrap .u64 (r2*2^(toNat 32))) r3) r4)) 4294967295) λguess=>
      gV b2 [(wrap .u32 guess)] λp=>
      bn (σ:=Int×(List Int)) (guess,p) λ⟨guess1,p1⟩ next3=>
       jc p1 r1 λr5=>
       an (decide (0<r5))
        (kD p1 b2 λr6 _=>
        next3 ((wrap .u64 (guess1-1)),r6))
        (kD r1 p1 λr8 _=>
        ((0:Int)<=i/\i<(q.length:Int))/\
        rng (i-1)/\
        next2 (r8,(i-1),(bu q i (wrap .u32 guess1)))))
      (c7 q λr10=>
      ly r s λr11=>
      Q r10 r11 0)))
def mJ (a:List Int) (b:List Int) (Q:List Int->Prop):Prop:=
 c7 a λa1=>
 c7 b λb1=>
 bn (σ:=(List Int)×(List Int)) (a1,b1) λ⟨a2,b2⟩ next1=>
  an (decide (0<(b2.length:Int)))
   (kE a2 b2 λ_ r1 _=>
   next1 (b2,r1))
   (Q a2)
def mK (a:List Int) (b:List Int) (Q:List Int->Prop):Prop:=
 rng ((max (a.length:Int) (b.length:Int))+1)/\
 bn (σ:=Int×Int×(List Int)) (0,0,[]) λ⟨carry,x,out⟩ next1=>
  an (decide (x<((max (a.length:Int) (b.length:Int))+1)))
   (cr a x λr=>
   cr b x λr1=>
   lq (wrap .u64 ((wrap .u64 (r+r1))+carry)) λs=>
   ((out++[(wrap .u32 s)]).length*4<=140737488355328)/\
   rng (x+1)/\
   next1 ((s / 2^(toNat 32)),(x+1),(out++[(wrap .u32 s)])))
   (c7 out λr2=>
   Q r2)
def jw (Q:List Int->Prop):Prop:=
 Q [1]
def im (a:List Int) (Q:Bool->Prop):Prop:=
 an (decide (0<(a.length:Int)))
  (rng ((a.length:Int)-1)/\
  ((0:Int)<=((a.length:Int)-1)/\((a.length:Int)-1)<(a.length:Int))/\
  Q ((at' a ((a.length:Int)-1)) != 0))
  (Q false)
def io (a:GRat) (Q:Bool->Prop):Prop:=
 dt (α:=Bool) (λnext1=>
  an ((a.J.length:Int) == 0)
   (next1 ((a.L.length:Int) == 0))
   (next1 false))
  λx=>
  an x
   (Q (!a.Y))
   (im a.J λr=>
   an r
    (im a.L λr1=>
    an r1
     (ko a.J a.L λr2=>
     jw λr3=>
     dX r2 r3 λr4=>
     Q (r4 == 0))
     (Q false))
    (Q false))
def gn (a:GRat) (Q:Bool->Prop):Prop:=
 io a λr=>
 an r
  (an (!a.Y)
   (dX a.J a.L λr1=>
   Q (decide (r1<=0)))
   (Q false))
  (Q false)
def cS (neg:Bool) (num:List Int) (den:List Int) (Q:GRat->Prop):Prop:=
 mc num λr=>
 an (r == 0)
  (Q (⟨false,[],[]⟩:GRat))
  (ko num den λg2=>
  iO num g2 λr1 _ _=>
  iO den g2 λr4 _ _=>
  Q (⟨neg,r1,r4⟩:GRat))
def cV (a:GRat) (Q:Bool->List Int->List Int->Prop):Prop:=
 dt (α:=Bool) (λnext1=>
  io a λr1=>
  an (!r1)
   (next1 true)
   (next1 ((a.J.length:Int) == 0)))
  λx=>
  an x
   (jw λr=>
   Q false [] r)
   (Q a.Y a.J a.L)
def d7 (a:GRat) (b:GRat) (Q:GRat->Prop):Prop:=
 cV a λr r1 r2=>
 cV b λr3 r4 r5=>
 di r1 r5 λp=>
 di r4 r2 λq=>
 di r2 r5 λden=>
 an (r == r3)
  (kp p q λr6=>
  cS r r6 den λr7=>
  Q r7)
  (dX p q λr8=>
  an (decide (0<=r8))
   (kn p q λr9 _=>
   cS r r9 den λr11=>
   Q r11)
   (kn q p λr12 _=>
   cS r3 r12 den λr14=>
   Q r14))
def kN (n:Int) (Q:List Int->Prop):Prop:=
 an (n == (-9223372036854775808))
  (Q [0,2147483648])
  (rng (-n)/\
  lD (max n (-n)) λr=>
  Q r)
def dW (n:Int) (Q:GRat->Prop):Prop:=
 kN n λr=>
 jw λr1=>
 cS (decide (n<0)) r r1 λr2=>
 Q r2
def dl (a:GRat) (b:GRat) (Q:GRat->Prop):Prop:=
 cV a λr r1 r2=>
 cV b λr3 r4 r5=>
 di r1 r4 λr6=>
 di r2 r5 λr7=>
 cS (r != r3) r6 r7 λr8=>
 Q r8
def l8 (a:GRat) (Q:GRat->Prop):Prop:=
 cV a λr r1 r2=>
 cS (!r) r1 r2 λr3=>
 Q r3
def d6 (a:GRat) (b:GRat) (Q:GRat->Prop):Prop:=
 ee (l8 b) λr=>
 ee (d7 a r) λr1=>
 Q r1
def gd (neg:Bool) (num:List Int) (den:List Int) (Q:GRat->Int->Prop):Prop:=
 jv den λr=>
 an (r == 0)
  (Q (⟨false,[],[]⟩:GRat) 8)
  (jv num λr1=>
  an (r1 == 0)
   (Q (⟨false,[],[]⟩:GRat) 0)
   (mJ num den λg2=>
   kE num g2 λr2 _ _=>
   kE den g2 λr5 _ _=>
   Q (⟨neg,r2,r5⟩:GRat) 0))
def ls (n:Int) (Q:List Int->Prop):Prop:=
 dt (α:=Int) (λnext1=>
  an (decide (n<0))
   (lq (wrap .u64 (0-(wrap .u64 n))) λu1=>
   next1 u1)
   (next1 (wrap .u64 n)))
  λu=>
  Q [(wrap .u32 u),(wrap .u32 (u / 2^(toNat 32)))]
def lx (n:Int) (d:Int) (Q:GRat->Int->Prop):Prop:=
 ls n λr=>
 ls d λr1=>
 gd ((decide (n<0)) != (decide (d<0))) r r1 λr2 r3=>
 Q r2 r3
def lI (a:List Int) (b:List Int) (Q:Bool->Prop):Prop:=
 an ((a.length:Int) != (b.length:Int))
  (Q false)
  (bn (σ:=Int) 0 λx next1=>
   an (decide (x<(a.length:Int)))
    (((0:Int)<=x/\x<(a.length:Int))/\
    ((0:Int)<=x/\x<(b.length:Int))/\
    an ((at' a x) != (at' b x))
     (Q false)
     (rng (x+1)/\
     next1 (x+1)))
    (Q true))
def oz (a:GRat) (b:GRat) (Q:Bool->Prop):Prop:=
 an (a.Y == b.Y)
  (lI a.J b.J λr=>
  an r
   (lI a.L b.L λr1=>
   Q r1)
   (Q false))
  (Q false)
def mR (a:List GRat) (b:List GRat) (Q:Bool->Prop):Prop:=
 an ((a.length:Int) != (b.length:Int))
  (Q false)
  (bn (σ:=Int) 0 λx next1=>
   an (decide (x<(a.length:Int)))
    (((0:Int)<=x/\x<(a.length:Int))/\
    ((0:Int)<=x/\x<(b.length:Int))/\
    ee (oz (at' a x) (at' b x)) λr=>
    an (!r)
     (Q false)
     (rng (x+1)/\
     next1 (x+1)))
    (Q true))
def iN (a:GRat) (Q:Bool->Prop):Prop:=
 dt (α:=Bool) (λnext1=>
  an ((a.J.length:Int) == 0)
   (next1 true)
   (next1 ((a.L.length:Int) == 0)))
  λx=>
  an x
   (an ((a.J.length:Int) == 0)
    (an ((a.L.length:Int) == 0)
     (Q (!a.Y))
     (Q false))
    (Q false))
   (rng ((a.J.length:Int)-1)/\
   ((0:Int)<=((a.J.length:Int)-1)/\((a.J.length:Int)-1)<(a.J.length:Int))/\
   an ((at' a.J ((a.J.length:Int)-1)) != 0)
    (rng ((a.L.length:Int)-1)/\
    ((0:Int)<=((a.L.length:Int)-1)/\((a.L.length:Int)-1)<(a.L.length:Int))/\
    an ((at' a.L ((a.L.length:Int)-1)) != 0)
     (mJ a.J a.L λr=>
     jv r λr1=>
     Q (r1 == 1))
     (Q false))
    (Q false))
def gC (a:GRat) (Q:Bool->List Int->List Int->Prop):Prop:=
 dt (α:=Bool) (λnext1=>
  iN a λr=>
  an (!r)
   (next1 true)
   (next1 ((a.J.length:Int) == 0)))
  λx=>
  an x
   (Q false [] [1])
   (Q a.Y a.J a.L)
def il (a:GRat) (Q:Int->Prop):Prop:=
 gC a λr r1 _=>
 an ((r1.length:Int) == 0)
  (Q 0)
  (an r
   (Q (-1))
   (Q 1))
def o9 (a:GRat) (b:GRat) (Q:GRat->Prop):Prop:=
 gC a λr r1 r2=>
 gC b λr3 r4 r5=>
 gV r1 r5 λx=>
 gV r4 r2 λy1=>
 gV r2 r5 λden=>
 an (r == r3)
  (mK x y1 λr6=>
  gd r r6 den λr7 _=>
  Q r7)
  (dt (α:=Bool×(List Int)×(List Int)) (λnext1=>
   jc x y1 λr13=>
   an (decide (r13<0))
    (next1 (r3,y1,x))
    (next1 (r,x,y1)))
   λ⟨s,x1,y2⟩=>
   kD x1 y2 λr9 _=>
   gd s r9 den λr11 _=>
   Q r11)
def o7 (a:GRat) (Q:GRat->Prop):Prop:=
 gC a λr r1 r2=>
 gd (!r) r1 r2 λr3 _=>
 Q r3
def o5 (a:GRat) (b:GRat) (Q:GRat->Prop):Prop:=
 ee (o7 b) λr=>
 ee (o9 a r) λr1=>
 Q r1
def gU (a:GRat) (b:GRat) (Q:Int->Prop):Prop:=
 o5 a b λr=>
 il r λr1=>
 Q r1
def n9 (n:Int) (Q:GRat->Prop):Prop:=
 lx n 1 λr _=>
 Q r
def lw (a:GRat) (Q:Bool->Prop):Prop:=
 ee (iN a) λr=>
 an r
  (ee (il a) λr1=>
  an (decide (0<=r1))
   (ee (n9 1) λr2=>
   ee (gU a r2) λr3=>
   Q (decide (r3<=0)))
   (Q false))
  (Q false)
def gW (a:GRat) (b:GRat) (Q:GRat->Option Int->Prop):Prop:=
 cV a λr r1 r2=>
 cV b λr3 r4 r5=>
 an ((r4.length:Int) == 0)
  (Q (⟨false,[],[]⟩:GRat) (some 8))
  (di r1 r5 λr6=>
  di r2 r4 λr7=>
  cS (r != r3) r6 r7 λr8=>
  Q r8 none)
def tc (err:Option Int) (code:Int) (Q:Bool->Prop):Prop:=
 an (isSome err)
  (Q ((getD err 0) == code))
  (Q false)
def iE (kind:Int) (n:Int) (Q:Bool->Prop):Prop:=
 an (kind == 0)
  (Q (n == 0))
  (an (kind == 1)
   (Q (n == 1))
   (an (decide (1<=n))
    (Q (decide (n<=16)))
    (Q false)))
def iD (f:GFormula) (i:Int) (Q:Option Int->Prop):Prop:=
 ((0:Int)<=i/\i<(f.V.length:Int))/\
 dt (α:=Bool) (λnext5=>
  an (decide ((at' f.V i).D<0))
   (next5 true)
   (next5 (decide (5<(at' f.V i).D))))
  λx=>
  an x
   (Q (some 7))
   (iE ((at' f.V i).D) (((at' f.V i).M).length:Int) λr=>
   an (!r)
    (Q (some 11))
    (bn (σ:=Int) 0 λx1 next1=>
     an (decide (x1<(((at' f.V i).M).length:Int)))
      (((0:Int)<=x1/\x1<(((at' f.V i).M).length:Int))/\
      dt (α:=Bool) (λnext2=>
       an (decide ((at' ((at' f.V i).M) x1)<0))
        (next2 true)
        (rng (f.A+i)/\
        next2 (decide ((f.A+i)<=(at' ((at' f.V i).M) x1)))))
       λx2=>
       an x2
        (Q (some 10))
        (rng (x1+1)/\
        next1 (x1+1)))
      (an ((at' f.V i).D == 0)
       (dt (α:=Bool) (λnext3=>
        an ((at' f.V i).K != 0)
         (next3 ((at' f.V i).K != 1))
         (next3 false))
        λx3=>
        an x3
         (Q (some 3))
         (Q none))
       (an ((at' f.V i).D == 4)
        (dt (α:=Bool) (λnext4=>
         an (decide ((at' f.V i).K<1))
          (next4 true)
          (next4 (decide ((((at' f.V i).M).length:Int)<(at' f.V i).K))))
         λx4=>
         an x4
          (Q (some 3))
          (Q none))
        (an ((at' f.V i).K != 0)
         (Q (some 2))
         (Q none))))))
def lh (f:GFormula) (arg:Int) (Q:Bool->Prop):Prop:=
 an (decide (0<=f.A))
  (an (decide (0<=arg))
   (an (decide (arg<f.A))
    (Q true)
    (rng (arg-f.A)/\
    Q (decide ((arg-f.A)<(f.V.length:Int)))))
   (Q false))
  (Q false)
def dv (f:GFormula) (Q:Option Int->Prop):Prop:=
 dt (α:=Bool) (λnext2=>
  an (decide (f.A<0))
   (next2 true)
   (next2 (decide (24<f.A))))
  λx=>
  an x
   (Q (some 3))
   (an (decide (128<(f.V.length:Int)))
    (Q (some 4))
    (bn (σ:=Int) 0 λx1 next1=>
     an (decide (x1<(f.V.length:Int)))
      (iD f x1 λe=>
      an (isSome e)
       (Q e)
       (rng (x1+1)/\
       next1 (x1+1)))
      (lh f f.F λr=>
      an (!r)
       (Q (some 10))
       (Q none))))
def i2 (f:GFormula) (Q:List Bool->Prop):Prop:=
 rng (f.A+(f.V.length:Int))/\
 kV 1 (f.A+(f.V.length:Int)) (f.A+(f.V.length:Int))/\
 ((0:Int)<=f.F/\f.F<((toNat (f.A+(f.V.length:Int))):Int))/\
 rng ((f.V.length:Int)-1)/\
 bn (σ:=Int×(List Bool)) (((f.V.length:Int)-1),(bu (bT (f.A+(f.V.length:Int)) false) f.F true)) λ⟨i,mark⟩ next1=>
  an (decide (0<=i))
   (rng (f.A+i)/\
   ((0:Int)<=(f.A+i)/\(f.A+i)<(mark.length:Int))/\
   an (at' mark (f.A+i))
    (((0:Int)<=i/\i<(f.V.length:Int))/\
    bn (σ:=Int×(List Bool)) (0,mark) λ⟨x,mark1⟩ next2=>
     an (decide (x<(((at' f.V i).M).length:Int)))
      (((0:Int)<=x/\x<(((at' f.V i).M).length:Int))/\
      ((0:Int)<=(at' ((at' f.V i).M) x)/\(at' ((at' f.V i).M) x)<(mark1.length:Int))/\
      rng (x+1)/\
      next2 ((x+1),(bu mark1 (at' ((at' f.V i).M) x) true)))
      (rng (i-1)/\
      next1 ((i-1),mark1)))
    (rng (i-1)/\
    next1 ((i-1),mark)))
   (Q mark)
def mh (f:GFormula) (Q:Int->Int->Option Int->Prop):Prop:=
 dv f λe=>
 an (isSome e)
  (Q 0 0 e)
  (ee (i2 f) λr=>
  ((0:Int)<=f.A/\f.A<=(r.length:Int)/\(r.length:Int)<=(r.length:Int))/\
  bn (σ:=Int×Int×Int) (0,0,0) λ⟨nodes,args,x⟩ next1=>
   an (decide (x<((cg r f.A (r.length:Int)).length:Int)))
    (((0:Int)<=x/\x<((cg r f.A (r.length:Int)).length:Int))/\
    an (at' (cg r f.A (r.length:Int)) x)
     (rng (nodes+1)/\
     ((0:Int)<=x/\x<(f.V.length:Int))/\
     rng (args+(((at' f.V x).M).length:Int))/\
     lq (args+(((at' f.V x).M).length:Int)) λargs1=>
     rng (x+1)/\
     next1 ((nodes+1),args1,(x+1)))
     (rng (x+1)/\
     next1 (nodes,args,(x+1))))
    (Q nodes args none))
def mg (f:GFormula) (Q:GFormula->Option Int->Prop):Prop:=
 dv f λe=>
 an (isSome e)
  (Q (⟨0,[],0⟩:GFormula) e)
  (rng (f.A+(f.V.length:Int))/\
  kV 8 (f.A+(f.V.length:Int)) (f.A+(f.V.length:Int))/\
  bn (σ:=Int×(List Int)) (0,(bT (f.A+(f.V.length:Int)) 0)) λ⟨x,to⟩ next1=>
   an (decide (x<f.A))
    (((0:Int)<=x/\x<(to.length:Int))/\
    rng (x+1)/\
    next1 ((x+1),(bu to x x)))
    (ee (i2 f) λr=>
    ((0:Int)<=f.A/\f.A<=(r.length:Int)/\(r.length:Int)<=(r.length:Int))/\
    bn (σ:=Int×(List Int)×(List GNode)) (0,to,[]) λ⟨x1,to1,x2⟩ next2=>
     an (decide (x1<((cg r f.A (r.length:Int)).length:Int)))
      (((0:Int)<=x1/\x1<((cg r f.A (r.length:Int)).length:Int))/\
      an (!(at' (cg r f.A (r.length:Int)) x1))
       (rng (x1+1)/\
       next2 ((x1+1),to1,x2))
       (((0:Int)<=x1/\x1<(f.V.length:Int))/\
       bn (σ:=Int×(List Int)) (0,[]) λ⟨x3,x4⟩ next3=>
        an (decide (x3<(((at' f.V x1).M).length:Int)))
         (((0:Int)<=x3/\x3<(((at' f.V x1).M).length:Int))/\
         ((0:Int)<=(at' ((at' f.V x1).M) x3)/\(at' ((at' f.V x1).M) x3)<(to1.length:Int))/\
         ((x4++[(at' to1 (at' ((at' f.V x1).M) x3))]).length*8<=140737488355328)/\
         rng (x3+1)/\
         next3 ((x3+1),(x4++[(at' to1 (at' ((at' f.V x1).M) x3))])))
         (rng (f.A+x1)/\
         rng (f.A+(x2.length:Int))/\
         ((0:Int)<=(f.A+x1)/\(f.A+x1)<(to1.length:Int))/\
         ((x2++[(⟨(at' f.V x1).D,(at' f.V x1).K,x4⟩:GNode)]).length*40<=140737488355328)/\
         rng (x1+1)/\
         next2 ((x1+1),(bu to1 (f.A+x1) (f.A+(x2.length:Int))),(x2++[(⟨(at' f.V x1).D,(at' f.V x1).K,x4⟩:GNode)])))))
      (((0:Int)<=f.F/\f.F<(to1.length:Int))/\
      Q (⟨f.A,x2,(at' to1 f.F)⟩:GFormula) none)))
def kY (f:GFormula) (failed:Int) (Q:Option Int->Prop):Prop:=
 dv f λe=>
 an (isSome e)
  (Q e)
  (dt (α:=Bool) (λnext1=>
   an (decide (failed<0))
    (next1 true)
    ((((0:Int)<=f.A/\f.A<=64)/\rng (1*2^(toNat f.A)))/\
    next1 (decide ((1*2^(toNat f.A))<=failed))))
   λx=>
   an x
    (Q (some 3))
    (Q none))
def j3 (f:GFormula) (failed:Int) (Q:List Bool->Prop):Prop:=
 rng (f.A+(f.V.length:Int))/\
 kV 1 f.A (f.A+(f.V.length:Int))/\
 bn (σ:=Int×(List Bool)) (0,(bT f.A false)) λ⟨x,v⟩ next1=>
  an (decide (x<((toNat f.A):Int)))
   (((0:Int)<=x/\x<=64)/\
   ((0:Int)<=x/\x<(v.length:Int))/\
   rng (x+1)/\
   next1 ((x+1),(bu v x ((bits .and .i64 (failed / 2^(toNat x)) 1) == 1))))
   (bn (σ:=Int×(List Bool)) (0,v) λ⟨x1,v1⟩ next2=>
    an (decide (x1<(f.V.length:Int)))
     (((0:Int)<=x1/\x1<(f.V.length:Int))/\
     bn (σ:=Int×Int) (0,0) λ⟨n,x2⟩ next3=>
      an (decide (x2<(((at' f.V x1).M).length:Int)))
       (((0:Int)<=x2/\x2<(((at' f.V x1).M).length:Int))/\
       ((0:Int)<=(at' ((at' f.V x1).M) x2)/\(at' ((at' f.V x1).M) x2)<(v1.length:Int))/\
       an (at' v1 (at' ((at' f.V x1).M) x2))
        (rng (n+1)/\
        rng (x2+1)/\
        next3 ((n+1),(x2+1)))
        (rng (x2+1)/\
        next3 (n,(x2+1))))
       (dt (α:=Bool) (λnext4=>
        an ((at' f.V x1).D == 0)
         (next4 ((at' f.V x1).K == 1))
         (an ((at' f.V x1).D == 1)
          (next4 (n == 0))
          (an ((at' f.V x1).D == 2)
           (next4 (n == (((at' f.V x1).M).length:Int)))
           (an ((at' f.V x1).D == 3)
            (next4 (decide (0<n)))
            (an ((at' f.V x1).D == 4)
             (next4 (decide ((at' f.V x1).K<=n)))
             (an ((at' f.V x1).D == 5)
              (next4 ((tmod n 2) == 1))
              (next4 false)))))))
        λis=>
        ((v1++[is]).length*1<=140737488355328)/\
        rng (x1+1)/\
        next2 ((x1+1),(v1++[is]))))
     (Q v1))
def k_ (f:GFormula) (failed:Int) (Q:Bool->Option Int->Prop):Prop:=
 kY f failed λe=>
 an (isSome e)
  (Q false e)
  (ee (j3 f failed) λr=>
  ((0:Int)<=f.F/\f.F<(r.length:Int))/\
  Q (at' r f.F) none)
def n8 (f:GFormula) (i:Int) (Q:Int->Prop):Prop:=
 ((0:Int)<=i/\i<(f.V.length:Int))/\
 dt (α:=Int×Int) (λnext2=>
  an ((at' f.V i).D == 0)
   (next2 (0,0))
   (an ((at' f.V i).D == 1)
    (next2 (1,1))
    (an ((at' f.V i).D == 2)
     (next2 (1,16))
     (an ((at' f.V i).D == 3)
      (next2 (1,16))
      (an ((at' f.V i).D == 4)
       (next2 (1,16))
       (an ((at' f.V i).D == 5)
        (next2 (1,16))
        (Q 7)))))))
  λ⟨least,most⟩=>
  an (decide ((((at' f.V i).M).length:Int)<least))
   (Q 11)
   (an (decide (most<(((at' f.V i).M).length:Int)))
    (Q 11)
    (bn (σ:=Int) 0 λx next1=>
     an (decide (x<(((at' f.V i).M).length:Int)))
      (((0:Int)<=x/\x<(((at' f.V i).M).length:Int))/\
      an (decide ((at' ((at' f.V i).M) x)<0))
       (Q 10)
       (rng (f.A+i)/\
       an (decide ((f.A+i)<=(at' ((at' f.V i).M) x)))
        (Q 10)
        (rng (x+1)/\
        next1 (x+1))))
      (an ((at' f.V i).D == 0)
       (an ((at' f.V i).K != 0)
        (an ((at' f.V i).K != 1)
         (Q 3)
         (Q 0))
        (Q 0))
       (an ((at' f.V i).D == 4)
        (an (decide ((at' f.V i).K<1))
         (Q 3)
         (an (decide ((((at' f.V i).M).length:Int)<(at' f.V i).K))
          (Q 3)
          (Q 0)))
        (an ((at' f.V i).K != 0)
         (Q 2)
         (Q 0))))))
def m7 (f:GFormula) (arg:Int) (Q:Bool->Prop):Prop:=
 an (decide (0<=f.A))
  (an (decide (0<=arg))
   (an (decide (arg<f.A))
    (Q true)
    (rng (arg-f.A)/\
    Q (decide ((arg-f.A)<(f.V.length:Int)))))
   (Q false))
  (Q false)
def m8 (f:GFormula) (Q:Int->Prop):Prop:=
 an (decide (f.A<0))
  (Q 3)
  (an (decide (24<f.A))
   (Q 3)
   (an (decide (128<(f.V.length:Int)))
    (Q 4)
    (bn (σ:=Int) 0 λx next1=>
     an (decide (x<(f.V.length:Int)))
      (n8 f x λe=>
      an (e != 0)
       (Q e)
       (rng (x+1)/\
       next1 (x+1)))
      (m7 f f.F λr=>
      an (!r)
       (Q 10)
       (Q 0)))))
def m9 (f:GFormula) (Q:List Bool->Prop):Prop:=
 rng (f.A+(f.V.length:Int))/\
 kV 1 (f.A+(f.V.length:Int)) (f.A+(f.V.length:Int))/\
 ((0:Int)<=f.F/\f.F<((toNat (f.A+(f.V.length:Int))):Int))/\
 rng ((f.V.length:Int)-1)/\
 bn (σ:=Int×(List Bool)) (((f.V.length:Int)-1),(bu (bT (f.A+(f.V.length:Int)) false) f.F true)) λ⟨i,mark⟩ next1=>
  an (decide (0<=i))
   (rng (f.A+i)/\
   ((0:Int)<=(f.A+i)/\(f.A+i)<(mark.length:Int))/\
   an (!(at' mark (f.A+i)))
    (rng (i-1)/\
    next1 ((i-1),mark))
    (((0:Int)<=i/\i<(f.V.length:Int))/\
    bn (σ:=Int×(List Bool)) (0,mark) λ⟨x,mark1⟩ next2=>
     an (decide (x<(((at' f.V i).M).length:Int)))
      (((0:Int)<=x/\x<(((at' f.V i).M).length:Int))/\
      ((0:Int)<=(at' ((at' f.V i).M) x)/\(at' ((at' f.V i).M) x)<(mark1.length:Int))/\
      rng (x+1)/\
      next2 ((x+1),(bu mark1 (at' ((at' f.V i).M) x) true)))
      (rng (i-1)/\
      next1 ((i-1),mark1))))
   (Q mark)
def cN:Nat->Int->Int->(List GNode)->Int->(List Int)->(List Bool)->(List Int->List Bool->Prop)->Prop
 | 0,_,_,_,_,_,_,_=>False
 | fu+1,arg,Formula,w,w1,events,seen,Q=>
  ((0:Int)<=arg/\arg<(seen.length:Int))/\
  an (at' seen arg)
   (Q events seen)
   (((0:Int)<=arg/\arg<(seen.length:Int))/\
   an (decide (arg<Formula))
    (((events++[arg]).length*8<=140737488355328)/\
    Q (events++[arg]) (bu seen arg true))
    (rng (arg-Formula)/\
    ((0:Int)<=(arg-Formula)/\(arg-Formula)<(w.length:Int))/\
    bn (σ:=Int×(List Int)×(List Bool)) (0,events,(bu seen arg true)) λ⟨x,x1,x2⟩ next1=>
     an (decide (x<(((at' w (arg-Formula)).M).length:Int)))
      (((0:Int)<=x/\x<(((at' w (arg-Formula)).M).length:Int))/\
      cN fu (at' ((at' w (arg-Formula)).M) x) Formula w w1 x1 x2 λu u1=>
      u1.length=x2.length/\
      rng (x+1)/\
      next1 ((x+1),u,u1))
      (Q x1 x2)))
def nc (f:GFormula) (Q:List Int->List Bool->Prop):Prop:=
 rng (f.A+(f.V.length:Int))/\
 kV 1 (f.A+(f.V.length:Int)) (f.A+(f.V.length:Int))/\
 ∃fu,cN fu f.F f.A f.V f.F ([]:List Int) (bT (f.A+(f.V.length:Int)) false) λu u1=>
 u1.length=(bT (f.A+(f.V.length:Int)) false).length/\
 bn (σ:=Int×(List Int)) (0,u) λ⟨x,x1⟩ next1=>
  an (decide (x<f.A))
   (((0:Int)<=x/\x<(u1.length:Int))/\
   an (!(at' u1 x))
    (((x1++[x]).length*8<=140737488355328)/\
    rng (x+1)/\
    next1 ((x+1),(x1++[x])))
    (rng (x+1)/\
    next1 ((x+1),x1)))
   (Q x1 u1)
def nf (f:GFormula) (Q:List Int->Option Int->Prop):Prop:=
 dv f λerr=>
 an (isSome err)
  (Q [] err)
  (nc f λr _=>
  Q r none)
def nh (o:List Int) (vars:Int) (Q:Option Int->Prop):Prop:=
 dt (α:=Bool) (λnext3=>
  an (decide (vars<0))
   (next3 true)
   (next3 (decide (24<vars))))
  λx=>
  an x
   (Q (some 3))
   (an ((o.length:Int) != vars)
    (Q (some 11))
    (kV 1 vars vars/\
    bn (σ:=Int×(List Bool)) (0,(bT vars false)) λ⟨x1,seen⟩ next1=>
     an (decide (x1<(o.length:Int)))
      (((0:Int)<=x1/\x1<(o.length:Int))/\
      dt (α:=Bool) (λnext2=>
       an (decide ((at' o x1)<0))
        (next2 true)
        (next2 (decide (vars<=(at' o x1)))))
       λx2=>
       an x2
        (Q (some 3))
        (((0:Int)<=(at' o x1)/\(at' o x1)<(seen.length:Int))/\
        an (at' seen (at' o x1))
         (Q (some 6))
         (((0:Int)<=(at' o x1)/\(at' o x1)<(seen.length:Int))/\
         rng (x1+1)/\
         next1 ((x1+1),(bu seen (at' o x1) true)))))
      (Q none)))
def jM (order:List Int) (Q:List Int->List Int->GMap Int->GMap Int->Prop):Prop:=
 (order.length*8<=140737488355328)/\
 kV 8 (order.length:Int) (order.length:Int)/\
 bn (σ:=Int×(List Int)) (0,(bT (order.length:Int) 0)) λ⟨x,x1⟩ next1=>
  an (decide (x<(order.length:Int)))
   (((0:Int)<=x/\x<(order.length:Int))/\
   ((0:Int)<=(at' order x)/\(at' order x)<(x1.length:Int))/\
   rng (x+1)/\
   next1 ((x+1),(bu x1 (at' order x) x)))
   (Q order x1 (jj:GMap Int) (jj:GMap Int))
def cR (v:Int) (lo:Int) (hi:Int) (_order:List Int) (_place:List Int) (nodes:List GDNode) (unique:GMap Int) (_memo:GMap Int) (Q:List GDNode->GMap Int->Int->Prop):Prop:=
 an (lo == hi)
  (Q nodes unique lo)
  (an (!(isSome (cT unique [v,lo,hi])))
   (rng (2+(nodes.length:Int))/\
   ((nodes++[(⟨v,lo,hi⟩:GDNode)]).length*24<=140737488355328)/\
   Q (nodes++[(⟨v,lo,hi⟩:GDNode)]) (mput unique [v,lo,hi] (2+(nodes.length:Int))) (2+(nodes.length:Int)))
   (Q nodes unique (getD (cT unique [v,lo,hi]) 0)))
def dg (i:Int) (order:List Int) (place:List Int) (nodes:List GDNode) (unique:GMap Int) (memo:GMap Int) (Q:List GDNode->GMap Int->Int->Prop):Prop:=
 cR i 0 1 order place nodes unique memo λu u1 r=>
 Q u u1 r
def bD (r:Int) (order:List Int) (place:List Int) (nodes:List GDNode) (_unique:GMap Int) (_memo:GMap Int) (Q:Int->Prop):Prop:=
 an (decide (r<2))
  (Q (order.length:Int))
  (rng (r-2)/\
  ((0:Int)<=(r-2)/\(r-2)<(nodes.length:Int))/\
  ((0:Int)<=(at' nodes (r-2)).H/\(at' nodes (r-2)).H<(place.length:Int))/\
  Q (at' place ((at' nodes (r-2)).H)))
def bR (r:Int) (level:Int) (order:List Int) (place:List Int) (nodes:List GDNode) (unique:GMap Int) (memo:GMap Int) (Q:Int->Int->Prop):Prop:=
 bD r order place nodes unique memo λr1=>
 an (r1 != level)
  (Q r r)
  (rng (r-2)/\
  ((0:Int)<=(r-2)/\(r-2)<(nodes.length:Int))/\
  Q ((at' nodes (r-2)).W) ((at' nodes (r-2)).X))
def aH:Nat->Int->Int->Int->(List Int)->(List Int)->(List GDNode)->(GMap Int)->(GMap Int)->(List GDNode->GMap Int->GMap Int->Int->Prop)->Prop
 | 0,_,_,_,_,_,_,_,_,_=>False
 | fu+1,c,a,b,order,place,nodes,unique,memo,Q=>
  dt (α:=Unit) (λnext1=>
   dt (α:=Bool) (λnext2=>
    an (c == 1)
     (next2 true)
     (next2 (a == b)))
    λx=>
    an x
     (Q nodes unique memo a)
     (an (c == 0)
      (Q nodes unique memo b)
      (an (a == 1)
       (an (b == 0)
        (Q nodes unique memo c)
        (next1 ()))
       (next1 ()))))
   λ_=>
   an (isSome (cT memo [c,a,b]))
    (Q nodes unique memo (getD (cT memo [c,a,b]) 0))
    (bD c order place nodes unique memo λr=>
    bD a order place nodes unique memo λr1=>
    bD b order place nodes unique memo λr2=>
    bR c (min (min r r1) r2) order place nodes unique memo λr3 r4=>
    bR a (min (min r r1) r2) order place nodes unique memo λr5 r6=>
    bR b (min (min r r1) r2) order place nodes unique memo λr7 r8=>
    aH fu r3 r5 r7 order place nodes unique memo λu u1 u2 lo=>
    aH fu r4 r6 r8 order place u u1 u2 λu3 u4 u5 hi=>
    ((0:Int)<=(min (min r r1) r2)/\(min (min r r1) r2)<(order.length:Int))/\
    cR (at' order (min (min r r1) r2)) lo hi order place u3 u4 u5 λu6 u7 r9=>
    Q u6 u7 (mput u5 [c,a,b] r9) r9)
def d4 (a:Int) (order:List Int) (place:List Int) (nodes:List GDNode) (unique:GMap Int) (memo:GMap Int) (Q:List GDNode->GMap Int->GMap Int->Int->Prop):Prop:=
 ∃fu,aH fu a 0 1 order place nodes unique memo λu u1 u2 r=>
 Q u u1 u2 r
def d5 (a:Int) (b:Int) (order:List Int) (place:List Int) (nodes:List GDNode) (unique:GMap Int) (memo:GMap Int) (Q:List GDNode->GMap Int->GMap Int->Int->Prop):Prop:=
 ∃fu,aH fu a b 0 order place nodes unique memo λu u1 u2 r=>
 Q u u1 u2 r
def eC (a:Int) (b:Int) (order:List Int) (place:List Int) (nodes:List GDNode) (unique:GMap Int) (memo:GMap Int) (Q:List GDNode->GMap Int->GMap Int->Int->Prop):Prop:=
 ∃fu,aH fu a 1 b order place nodes unique memo λu u1 u2 r=>
 Q u u1 u2 r
def dY (a:Int) (b:Int) (order:List Int) (place:List Int) (nodes:List GDNode) (unique:GMap Int) (memo:GMap Int) (Q:List GDNode->GMap Int->GMap Int->Int->Prop):Prop:=
 d4 b order place nodes unique memo λu u1 u2 r=>
 ∃fu,aH fu a r b order place u u1 u2 λu3 u4 u5 r1=>
 Q u3 u4 u5 r1
def aR:Nat->Int->Int->(GMap Bool)->(List Int)->(List Int)->(List GDNode)->(GMap Int)->(GMap Int)->(GMap Bool->Prop)->Prop
 | 0,_,_,_,_,_,_,_,_,_=>False
 | fu+1,r,u,u1,order,place,nodes,unique,memo,Q=>
  an (decide (r<2))
   (Q u1)
   (an (getD (cT u1 [r]) false)
    (Q u1)
    (an (decide (u<((GMap.n u1:Nat):Int)))
     (Q u1)
     (rng (r-2)/\
     ((0:Int)<=(r-2)/\(r-2)<(nodes.length:Int))/\
     ∃u2,(aR fu ((at' nodes (r-2)).W) u (mput u1 [r] true) order place nodes unique memo λy1=>y1=u2)/\
     rng (r-2)/\
     ((0:Int)<=(r-2)/\(r-2)<(nodes.length:Int))/\
     ∃u3,(aR fu ((at' nodes (r-2)).X) u u2 order place nodes unique memo λy2=>y2=u3)/\
     Q u3)))
def cw (root:Int) (most:Int) (order:List Int) (place:List Int) (nodes:List GDNode) (unique:GMap Int) (memo:GMap Int) (Q:Bool->Prop):Prop:=
 ∃fu,aR fu root most (jj:GMap Bool) order place nodes unique memo λu=>
 Q (decide (((GMap.n u:Nat):Int)<=most))
def bw:Nat->Int->Int->(GMap Int)->(List Int)->(List GDNode)->(List Int)->(List Int)->(List GDNode)->(GMap Int)->(GMap Int)->(GMap Int->List GDNode->Int->Prop)->Prop
 | 0,_,_,_,_,_,_,_,_,_,_,_=>False
 | fu+1,r,Z,u,Order,V,order,place,nodes,unique,memo,Q=>
  an (isSome (cT u [r]))
   (Q u V (getD (cT u [r]) 0))
   (rng (r-2)/\
   ((0:Int)<=(r-2)/\(r-2)<(nodes.length:Int))/\
   bw fu ((at' nodes (r-2)).W) Z u Order V order place nodes unique memo λu1 u2 lo=>
   bw fu ((at' nodes (r-2)).X) Z u1 Order u2 order place nodes unique memo λu3 u4 hi1=>
   ((u4++[(⟨(at' nodes (r-2)).H,lo,hi1⟩:GDNode)]).length*24<=140737488355328)/\
   rng (1+((u4++[(⟨(at' nodes (r-2)).H,lo,hi1⟩:GDNode)]).length:Int))/\
   Q (mput u3 [r] (1+((u4++[(⟨(at' nodes (r-2)).H,lo,hi1⟩:GDNode)]).length:Int))) (u4++[(⟨(at' nodes (r-2)).H,lo,hi1⟩:GDNode)]) (getD (cT (mput u3 [r] (1+((u4++[(⟨(at' nodes (r-2)).H,lo,hi1⟩:GDNode)]).length:Int))) [r]) 0))
def df (root:Int) (order:List Int) (place:List Int) (nodes:List GDNode) (unique:GMap Int) (memo:GMap Int) (Q:GDiagram->Prop):Prop:=
 (order.length*8<=140737488355328)/\
 ∃fu,bw fu root 0 (mput (mput (jj:GMap Int) [0] 0) [1] 1) order ([]:List GDNode) order place nodes unique memo λ_ u1 r=>
 Q (⟨order,u1,r⟩:GDiagram)
def mQ (refs:List Int) (first:Int) (order:List Int) (place:List Int) (nodes:List GDNode) (unique:GMap Int) (memo:GMap Int) (Q:List GDNode->GMap Int->GMap Int->Int->Prop):Prop:=
 bn (σ:=Int×Int×(List GDNode)×(GMap Int)×(GMap Int)) (first,0,nodes,unique,memo) λ⟨first1,x,x1,x2,x3⟩ next1=>
  an (decide (x<(refs.length:Int)))
   (((0:Int)<=x/\x<(refs.length:Int))/\
   d5 first1 (at' refs x) order place x1 x2 x3 λu u1 u2 first2=>
   rng (x+1)/\
   next1 (first2,(x+1),u,u1,u2))
   (Q x1 x2 x3 first1)
def ml (refs:List Int) (first:Int) (order:List Int) (place:List Int) (nodes:List GDNode) (unique:GMap Int) (memo:GMap Int) (Q:List GDNode->GMap Int->GMap Int->Int->Prop):Prop:=
 bn (σ:=Int×Int×(List GDNode)×(GMap Int)×(GMap Int)) (first,0,nodes,unique,memo) λ⟨first1,x,x1,x2,x3⟩ next1=>
  an (decide (x<(refs.length:Int)))
   (((0:Int)<=x/\x<(refs.length:Int))/\
   eC first1 (at' refs x) order place x1 x2 x3 λu u1 u2 first2=>
   rng (x+1)/\
   next1 (first2,(x+1),u,u1,u2))
   (Q x1 x2 x3 first1)
def mj (refs:List Int) (first:Int) (order:List Int) (place:List Int) (nodes:List GDNode) (unique:GMap Int) (memo:GMap Int) (Q:List GDNode->GMap Int->GMap Int->Int->Prop):Prop:=
 bn (σ:=Int×Int×(List GDNode)×(GMap Int)×(GMap Int)) (first,0,nodes,unique,memo) λ⟨first1,x,x1,x2,x3⟩ next1=>
  an (decide (x<(refs.length:Int)))
   (((0:Int)<=x/\x<(refs.length:Int))/\
   dY first1 (at' refs x) order place x1 x2 x3 λu u1 u2 first2=>
   rng (x+1)/\
   next1 (first2,(x+1),u,u1,u2))
   (Q x1 x2 x3 first1)
def jJ (refs:List Int) (k6:Int) (order:List Int) (place:List Int) (nodes:List GDNode) (unique:GMap Int) (memo:GMap Int) (Q:List GDNode->GMap Int->GMap Int->Int->Prop):Prop:=
 rng (k6+1)/\
 kV 8 (k6+1) (k6+1)/\
 ((0:Int)<=0/\0<((toNat (k6+1)):Int))/\
 bn (σ:=Int×(List Int)×(List GDNode)×(GMap Int)×(GMap Int)) (0,(bu (bT (k6+1) 0) 0 1),nodes,unique,memo) λ⟨x,need,x1,x2,x3⟩ next1=>
  an (decide (x<(refs.length:Int)))
   (((0:Int)<=x/\x<(refs.length:Int))/\
   bn (σ:=Int×(List Int)×(List GDNode)×(GMap Int)×(GMap Int)) (k6,need,x1,x2,x3) λ⟨j,need1,x4,x5,x6⟩ next2=>
    an (decide (0<j))
     (rng (j-1)/\
     ((0:Int)<=(j-1)/\(j-1)<(need1.length:Int))/\
     ((0:Int)<=j/\j<(need1.length:Int))/\
     ∃u u1 u2 r,(∃fu,aH fu (at' refs x) (at' need1 (j-1)) (at' need1 j) order place x4 x5 x6 λy1 y2 y3 y4=>y1=u/\y2=u1/\y3=u2/\y4=r)/\
     ((0:Int)<=j/\j<(need1.length:Int))/\
     rng (j-1)/\
     next2 ((j-1),(bu need1 j r),u,u1,u2))
     (rng (x+1)/\
     next1 ((x+1),need1,x4,x5,x6)))
   (((0:Int)<=k6/\k6<(need.length:Int))/\
   Q x1 x2 x3 (at' need k6))
def gL (x:GNode) (refs:List Int) (order:List Int) (place:List Int) (nodes:List GDNode) (unique:GMap Int) (memo:GMap Int) (Q:List GDNode->GMap Int->GMap Int->Int->Prop):Prop:=
 an (x.D == 0)
  (Q nodes unique memo x.K)
  (an (x.D == 1)
   (((0:Int)<=0/\0<(refs.length:Int))/\
   d4 (at' refs 0) order place nodes unique memo λu u1 u2 r=>
   Q u u1 u2 r)
   (an (x.D == 2)
    (mQ refs 1 order place nodes unique memo λu3 u4 u5 r1=>
    Q u3 u4 u5 r1)
    (an (x.D == 3)
     (ml refs 0 order place nodes unique memo λu6 u7 u8 r2=>
     Q u6 u7 u8 r2)
     (an (x.D == 5)
      (mj refs 0 order place nodes unique memo λu9 u10 u11 r3=>
      Q u9 u10 u11 r3)
      (jJ refs x.K order place nodes unique memo λu12 u13 u14 r4=>
      Q u12 u13 u14 r4)))))
def i3 (f:GFormula) (o:List Int) (Q:GDiagram->Option Int->Prop):Prop:=
 mh f λr _ r2=>
 an (isSome r2)
  (Q (⟨[],[],0⟩:GDiagram) r2)
  (nh o f.A λerr=>
  an (isSome err)
   (Q (⟨[],[],0⟩:GDiagram) err)
   (dt (α:=GFormula) (λnext4=>
    an (decide (0<r))
     (mg f λr7 r8=>
     an (isSome r8)
      (Q (⟨[],[],0⟩:GDiagram) r8)
      (next4 r7))
     (next4 (⟨f.A,[],f.F⟩:GFormula)))
    λx=>
    jM o λorder place unique memo=>
    rng (x.A+(x.V.length:Int))/\
    kV 8 (x.A+(x.V.length:Int)) (x.A+(x.V.length:Int))/\
    bn (σ:=Int×(List Int)×(GMap Int)×(List GDNode)) (0,(bT (x.A+(x.V.length:Int)) 0),unique,[]) λ⟨x1,refs,x2,x3⟩ next1=>
     an (decide (x1<x.A))
      (dg x1 order place x3 x2 memo λu u1 r3=>
      ((0:Int)<=x1/\x1<(refs.length:Int))/\
      rng (x1+1)/\
      next1 ((x1+1),(bu refs x1 r3),u1,u))
      (bn (σ:=Int×(List Int)×(GMap Int)×(GMap Int)×(List GDNode)) (0,refs,x2,memo,x3) λ⟨x4,refs1,x5,x6,x7⟩ next2=>
       an (decide (x4<(x.V.length:Int)))
        (((0:Int)<=x4/\x4<(x.V.length:Int))/\
        bn (σ:=Int×(List Int)) (0,[]) λ⟨x8,args⟩ next3=>
         an (decide (x8<(((at' x.V x4).M).length:Int)))
          (((0:Int)<=x8/\x8<(((at' x.V x4).M).length:Int))/\
          ((0:Int)<=(at' ((at' x.V x4).M) x8)/\(at' ((at' x.V x4).M) x8)<(refs1.length:Int))/\
          ((args++[(at' refs1 (at' ((at' x.V x4).M) x8))]).length*8<=140737488355328)/\
          rng (x8+1)/\
          next3 ((x8+1),(args++[(at' refs1 (at' ((at' x.V x4).M) x8))])))
          (rng (x.A+x4)/\
          ∃u2 u3 u4 r4,(gL (at' x.V x4) args order place x7 x5 x6 λy1 y2 y3 y4=>y1=u2/\y2=u3/\y3=u4/\y4=r4)/\
          ((0:Int)<=(x.A+x4)/\(x.A+x4)<(refs1.length:Int))/\
          rng (x.A+x4)/\
          ((0:Int)<=(x.A+x4)/\(x.A+x4)<(refs1.length:Int))/\
          cw (at' (bu refs1 (x.A+x4) r4) (x.A+x4)) 4096 order place u2 u3 u4 λr5=>
          an (!r5)
           (Q (⟨[],[],0⟩:GDiagram) (some 4))
           (rng (x4+1)/\
           next2 ((x4+1),(bu refs1 (x.A+x4) r4),u3,u4,u2))))
        (((0:Int)<=x.F/\x.F<(refs1.length:Int))/\
        df (at' refs1 x.F) order place x7 x5 x6 λr6=>
        Q r6 none))))
def fE (s:List Int) (Q:List Int->Prop):Prop:=
 ∀isnil:Bool,(isnil=true->s=[])->
 an isnil
  (Q [])
  (((([]:List Int)++s).length*8<=140737488355328)/\
  Q (([]:List Int)++s))
def eM (s:List Int) (Q:List Int->Prop):Prop:=
 ∀isnil:Bool,(isnil=true->s.length=0)->
 an isnil
  (Q [])
  (((([]:List Int)++s).length*8<=140737488355328)/\
  Q (([]:List Int)++s))
def cU (s:List Int) (Q:List Int->Prop):Prop:=
 ∀isnil:Bool,(isnil=true->s=[])->
 an isnil
  (Q [])
  (((([]:List Int)++s).length*4<=140737488355328)/\
  Q (([]:List Int)++s))
def mF (x:GRat) (Q:Bool->Prop):Prop:=
 gn x λr=>
 Q (!r)
def bS (s:List GRat) (Q:Int->Prop):Prop:=
 bn (σ:=Int) 0 λx next1=>
  an (decide (x<(s.length:Int)))
   (((0:Int)<=x/\x<(s.length:Int))/\
   mF (at' s x) λr=>
   an r
    (Q x)
    (rng (x+1)/\
    next1 (x+1)))
   (Q (-1))
def bO (s:List GRat) (Q:Bool->Prop):Prop:=
 bS s λr=>
 Q (decide (0<=r))
def kM (p:List GRat) (vars:Int) (Q:Option Int->Prop):Prop:=
 an ((p.length:Int) != vars)
  (Q (some 11))
  (bO p λr=>
  an r
   (Q (some 3))
   (Q none))
def n4 (v:List GRat) (r:Int) (Q:GRat->Prop):Prop:=
 an (decide (r<2))
  (dW r λr1=>
  Q r1)
  (rng (r-2)/\
  ((0:Int)<=(r-2)/\(r-2)<(v.length:Int))/\
  Q (at' v (r-2)))
def kL (r:Int) (v:List GRat) (Q:GRat->Prop):Prop:=
 an (decide (r<2))
  (dW r λr1=>
  Q r1)
  (rng (r-2)/\
  ((0:Int)<=(r-2)/\(r-2)<(v.length:Int))/\
  Q (at' v (r-2)))
def jq (n:GDNode) (p:List GRat) (v:List GRat) (Q:GRat->Prop):Prop:=
 ((0:Int)<=n.H/\n.H<(p.length:Int))/\
 ee (dW 1) λr=>
 ee (d6 r (at' p n.H)) λr1=>
 ∃r2,(kL n.W v λy1=>y1=r2)/\
 ee (dl r1 r2) λr3=>
 ∃r4,(kL n.X v λy2=>y2=r4)/\
 ee (dl (at' p n.H) r4) λr5=>
 ee (d7 r3 r5) λr6=>
 Q r6
def jX (d:GDiagram) (p:List GRat) (Q:List GRat->Prop):Prop:=
 kV 56 0 (d.V.length:Int)/\
 bn (σ:=Int×(List GRat)) (0,(bT 0 (⟨false,[],[]⟩:GRat))) λ⟨x,v⟩ next1=>
  an (decide (x<(d.V.length:Int)))
   (((0:Int)<=x/\x<(d.V.length:Int))/\
   jq (at' d.V x) p v λr=>
   ((v++[r]).length*56<=140737488355328)/\
   rng (x+1)/\
   next1 ((x+1),(v++[r])))
   (Q v)
def mW (f:GFormula) (p:List GRat) (Q:GRat->Option Int->Prop):Prop:=
 dv f λerr=>
 an (isSome err)
  (Q (⟨false,[],[]⟩:GRat) err)
  (kM p f.A λerr1=>
  an (isSome err1)
   (Q (⟨false,[],[]⟩:GRat) err1)
   (nf f λr r1=>
   an (isSome r1)
    (Q (⟨false,[],[]⟩:GRat) r1)
    (i3 f r λr2 r3=>
    an (isSome r3)
     (Q (⟨false,[],[]⟩:GRat) r3)
     (ee (jX r2 p) λr4=>
     ee (n4 r4 r2.Z) λr5=>
     Q r5 none))))
def nE (x:GRat) (Q:Bool->Prop):Prop:=
 gn x λr=>
 Q (!r)
def bW (s:List GRat) (Q:Int->Prop):Prop:=
 bn (σ:=Int) 0 λx next1=>
  an (decide (x<(s.length:Int)))
   (((0:Int)<=x/\x<(s.length:Int))/\
   nE (at' s x) λr=>
   an r
    (Q x)
    (rng (x+1)/\
    next1 (x+1)))
   (Q (-1))
def bx (s:List GRat) (Q:Bool->Prop):Prop:=
 bW s λr=>
 Q (decide (0<=r))
def fP (m:GMission) (Q:Option Int->Prop):Prop:=
 an ((m.N.length:Int) == 0)
  (Q (some 11))
  (an (decide (6<(m.N.length:Int)))
   (Q (some 4))
   (((0:Int)<=0/\0<(m.N.length:Int))/\
   bn (σ:=Int) 0 λx next1=>
    an (decide (x<(m.N.length:Int)))
     (((0:Int)<=x/\x<(m.N.length:Int))/\
     dv (at' m.N x) λerr=>
     an (isSome err)
      (Q err)
      (an ((at' m.N x).A != (at' m.N 0).A)
       (Q (some 11))
       (rng (x+1)/\
       next1 (x+1))))
     (rng ((at' m.N 0).A*(m.N.length:Int))/\
     an (decide (24<((at' m.N 0).A*(m.N.length:Int))))
      (Q (some 4))
      (an ((m.P.length:Int) != (at' m.N 0).A)
       (Q (some 11))
       (bn (σ:=Int) 0 λx1 next2=>
        an (decide (x1<(m.P.length:Int)))
         (((0:Int)<=x1/\x1<(m.P.length:Int))/\
         an (((at' m.P x1).length:Int) != (m.N.length:Int))
          (Q (some 11))
          (bx (at' m.P x1) λr=>
          an r
           (Q (some 3))
           (rng (x1+1)/\
           next2 (x1+1))))
         (Q none))))))
def d9 (kind:Int) (k2:Int) (args:List Int) (A:Int) (_Top:Int) (V:List GNode) (Q:List GNode->Int->Prop):Prop:=
 ((V++[(⟨kind,k2,args⟩:GNode)]).length*40<=140737488355328)/\
 rng (A+((V++[(⟨kind,k2,args⟩:GNode)]).length:Int))/\
 rng ((A+((V++[(⟨kind,k2,args⟩:GNode)]).length:Int))-1)/\
 Q (V++[(⟨kind,k2,args⟩:GNode)]) ((A+((V++[(⟨kind,k2,args⟩:GNode)]).length:Int))-1)
def d8 (arg:Int) (u:GFormula) (u1:Int) (u2:Int) (u3:List (List Int)) (Q:Int->Prop):Prop:=
 an (decide (arg<u.A))
  (((0:Int)<=arg/\arg<(u3.length:Int))/\
  ((0:Int)<=u1/\u1<((at' u3 arg).length:Int))/\
  Q (at' (at' u3 arg) u1))
  (rng (u2+arg)/\
  rng ((u2+arg)-u.A)/\
  Q ((u2+arg)-u.A))
def kS (m:GMission) (Q:GFormula->List GRat->Option Int->Prop):Prop:=
 fP m λerr=>
 an (isSome err)
  (Q (⟨0,[],0⟩:GFormula) [] err)
  (rng ((m.P.length:Int)*(m.N.length:Int))/\
  kV 24 (m.P.length:Int) (m.P.length:Int)/\
  bn (σ:=Int×(List (List Int))×(List GNode)) (0,(bT (m.P.length:Int) []),[]) λ⟨x,x1,x2⟩ next1=>
   an (decide (x<((toNat (m.P.length:Int)):Int)))
    (bn (σ:=Int×(List (List Int))×(List Int)×(List GNode)) (0,x1,[],x2) λ⟨x3,x4,so,x5⟩ next2=>
     an (decide (x3<(m.N.length:Int)))
      (rng (x*(m.N.length:Int))/\
      rng ((x*(m.N.length:Int))+x3)/\
      ((so++[((x*(m.N.length:Int))+x3)]).length*8<=140737488355328)/\
      an (x3 == 0)
       (((0:Int)<=x/\x<(x4.length:Int))/\
       ((0:Int)<=0/\0<((so++[((x*(m.N.length:Int))+x3)]).length:Int))/\
       ((at' x4 x++[(at' (so++[((x*(m.N.length:Int))+x3)]) 0)]).length*8<=140737488355328)/\
       ((0:Int)<=x/\x<(x4.length:Int))/\
       rng (x3+1)/\
       next2 ((x3+1),(bu x4 x (at' x4 x++[(at' (so++[((x*(m.N.length:Int))+x3)]) 0)])),(so++[((x*(m.N.length:Int))+x3)]),x5))
       (((0:Int)<=x/\x<(x4.length:Int))/\
       ∃r,(eM (so++[((x*(m.N.length:Int))+x3)]) λy1=>y1=r)/\
       ∃u r1,(d9 3 0 r ((m.P.length:Int)*(m.N.length:Int)) 0 x5 λy2 y3=>y2=u/\y3=r1)/\
       ((at' x4 x++[r1]).length*8<=140737488355328)/\
       ((0:Int)<=x/\x<(x4.length:Int))/\
       rng (x3+1)/\
       next2 ((x3+1),(bu x4 x (at' x4 x++[r1])),(so++[((x*(m.N.length:Int))+x3)]),u)))
      (rng (x+1)/\
      next1 ((x+1),x4,x5)))
    (bn (σ:=Int×(List Int)×(List GNode)) (0,[],x2) λ⟨x6,tops,x7⟩ next3=>
     an (decide (x6<(m.N.length:Int)))
      (((0:Int)<=x6/\x6<(m.N.length:Int))/\
      rng (((m.P.length:Int)*(m.N.length:Int))+(x7.length:Int))/\
      bn (σ:=Int×(List GNode)) (0,x7) λ⟨x8,x9⟩ next4=>
       an (decide (x8<(((at' m.N x6).V).length:Int)))
        (((0:Int)<=x8/\x8<(((at' m.N x6).V).length:Int))/\
        bn (σ:=Int×(List Int)) (0,[]) λ⟨x10,args⟩ next5=>
         an (decide (x10<(((at' ((at' m.N x6).V) x8).M).length:Int)))
          (((0:Int)<=x10/\x10<(((at' ((at' m.N x6).V) x8).M).length:Int))/\
          lq (at' ((at' ((at' m.N x6).V) x8).M) x10) λa=>
          d8 a (at' m.N x6) x6 (((m.P.length:Int)*(m.N.length:Int))+(x7.length:Int)) x1 λr2=>
          ((args++[r2]).length*8<=140737488355328)/\
          rng (x10+1)/\
          next5 ((x10+1),(args++[r2])))
          (d9 ((at' ((at' m.N x6).V) x8).D) ((at' ((at' m.N x6).V) x8).K) args ((m.P.length:Int)*(m.N.length:Int)) 0 x9 λu1 _=>
          rng (x8+1)/\
          next4 ((x8+1),u1)))
        (d8 ((at' m.N x6).F) (at' m.N x6) x6 (((m.P.length:Int)*(m.N.length:Int))+(x7.length:Int)) x1 λr4=>
        ((tops++[r4]).length*8<=140737488355328)/\
        rng (x6+1)/\
        next3 ((x6+1),(tops++[r4]),x9)))
      (((0:Int)<=0/\0<(tops.length:Int))/\
      dt (α:=Int×(List GNode)) (λnext8=>
       an (decide (1<(m.N.length:Int)))
        (d9 3 0 tops ((m.P.length:Int)*(m.N.length:Int)) (at' tops 0) x7 λu2 r6=>
        next8 (r6,u2))
        (next8 ((at' tops 0),x7)))
       λ⟨x11,x12⟩=>
       an (decide (128<(x12.length:Int)))
        (Q (⟨0,[],0⟩:GFormula) [] (some 4))
        (bn (σ:=Int×(List GRat)) (0,[]) λ⟨x13,p⟩ next6=>
         an (decide (x13<(m.P.length:Int)))
          (((0:Int)<=x13/\x13<(m.P.length:Int))/\
          bn (σ:=Int×(List GRat)) (0,p) λ⟨x14,p1⟩ next7=>
           an (decide (x14<((at' m.P x13).length:Int)))
            (((0:Int)<=x14/\x14<((at' m.P x13).length:Int))/\
            d7 (at' (at' m.P x13) x14) (⟨false,[],[]⟩:GRat) λr5=>
            ((p1++[r5]).length*56<=140737488355328)/\
            rng (x14+1)/\
            next7 ((x14+1),(p1++[r5])))
            (rng (x13+1)/\
            next6 ((x13+1),p1)))
          (Q (⟨((m.P.length:Int)*(m.N.length:Int)),x12,x11⟩:GFormula) p none)))))
def fk (m:GMission) (h1:List Int) (Q:Option Int->Prop):Prop:=
 fP m λerr=>
 an (isSome err)
  (Q err)
  (an ((h1.length:Int) != (m.P.length:Int))
   (Q (some 11))
   (bn (σ:=Int) 0 λx next1=>
    an (decide (x<(h1.length:Int)))
     (((0:Int)<=x/\x<(h1.length:Int))/\
     dt (α:=Bool) (λnext2=>
      an (decide ((at' h1 x)<0))
       (next2 true)
       (next2 (decide ((m.N.length:Int)<(at' h1 x)))))
      λx1=>
      an x1
       (Q (some 3))
       (rng (x+1)/\
       next1 (x+1)))
     (Q none)))
def kP (h1:List Int) (j:Int) (Q:Int->Prop):Prop:=
 bn (σ:=Int×Int) (0,0) λ⟨set,x⟩ next1=>
  an (decide (x<(h1.length:Int)))
   (((0:Int)<=x/\x<(h1.length:Int))/\
   an (decide ((at' h1 x)<=j))
    ((((0:Int)<=x/\x<=64)/\rng (1*2^(toNat x)))/\
    rng (x+1)/\
    next1 ((bits .or .i64 set (1*2^(toNat x))),(x+1)))
    (rng (x+1)/\
    next1 (set,(x+1))))
   (Q set)
def l9 (m:GMission) (h1:List Int) (Q:Int->Option Int->Prop):Prop:=
 fk m h1 λerr=>
 an (isSome err)
  (Q 0 err)
  (bn (σ:=Int) 0 λx next1=>
   an (decide (x<(m.N.length:Int)))
    (((0:Int)<=x/\x<(m.N.length:Int))/\
    ee (kP h1 x) λr=>
    EA (k_ (at' m.N x) r) λr1 r2=>
    an (isSome r2)
     (Q 0 r2)
     (an r1
      (Q x none)
      (rng (x+1)/\
      next1 (x+1))))
    (Q (m.N.length:Int) none))
def kQ (m:GMission) (h1:List Int) (Q:GRat->Option Int->Prop):Prop:=
 fk m h1 λerr=>
 an (isSome err)
  (Q (⟨false,[],[]⟩:GRat) err)
  (dW 1 λr=>
  bn (σ:=Int×GRat) (0,r) λ⟨x,x1⟩ next1=>
   an (decide (x<(h1.length:Int)))
    (((0:Int)<=x/\x<(h1.length:Int))/\
    ((0:Int)<=x/\x<(m.P.length:Int))/\
    rng ((at' h1 x)+1)/\
    ((0:Int)<=0/\0<=(min ((at' h1 x)+1) (m.N.length:Int))/\(min ((at' h1 x)+1) (m.N.length:Int))<=((at' m.P x).length:Int))/\
    bn (σ:=Int×GRat) (0,x1) λ⟨x2,x3⟩ next2=>
     an (decide (x2<((cg (at' m.P x) 0 (min ((at' h1 x)+1) (m.N.length:Int))).length:Int)))
      (((0:Int)<=x2/\x2<((cg (at' m.P x) 0 (min ((at' h1 x)+1) (m.N.length:Int))).length:Int))/\
      dt (α:=GRat) (λnext3=>
       an (decide (x2<(at' h1 x)))
        (d6 r (at' (cg (at' m.P x) 0 (min ((at' h1 x)+1) (m.N.length:Int))) x2) λr2=>
        next3 r2)
        (next3 (at' (cg (at' m.P x) 0 (min ((at' h1 x)+1) (m.N.length:Int))) x2)))
       λx4=>
       dl x3 x4 λr1=>
       rng (x2+1)/\
       next2 ((x2+1),r1))
      (rng (x+1)/\
      next1 ((x+1),x3)))
    (Q x1 none))
def cQ (m:GMission) (Q:Int->Prop):Prop:=
 ((0:Int)<=0/\0<(m.N.length:Int))/\
 Q ((at' m.N 0).A)
def nA (m:GMission) (Q:Int->Prop):Prop:=
 an ((m.N.length:Int) == 0)
  (Q 11)
  (an (decide (6<(m.N.length:Int)))
   (Q 4)
   (bn (σ:=Int) 0 λj next1=>
    an (decide (j<(m.N.length:Int)))
     (((0:Int)<=j/\j<(m.N.length:Int))/\
     m8 (at' m.N j) λe=>
     an (e != 0)
      (Q e)
      (((0:Int)<=j/\j<(m.N.length:Int))/\
      ee (cQ m) λr=>
      an ((at' m.N j).A != r)
       (Q 11)
       (rng (j+1)/\
       next1 (j+1))))
     (Q 0)))
def gB (m:GMission) (Q:Int->Prop):Prop:=
 nA m λe=>
 an (e != 0)
  (Q e)
  (ee (cQ m) λr=>
  rng (r*(m.N.length:Int))/\
  an (decide (24<(r*(m.N.length:Int))))
   (Q 4)
   (ee (cQ m) λr1=>
   an ((m.P.length:Int) != r1)
    (Q 11)
    (bn (σ:=Int) 0 λi next1=>
     an (decide (i<(m.P.length:Int)))
      (((0:Int)<=i/\i<(m.P.length:Int))/\
      an (((at' m.P i).length:Int) != (m.N.length:Int))
       (Q 11)
       (bn (σ:=Int) 0 λj next2=>
        ((0:Int)<=i/\i<(m.P.length:Int))/\
        an (decide (j<((at' m.P i).length:Int)))
         (((0:Int)<=i/\i<(m.P.length:Int))/\
         ((0:Int)<=j/\j<((at' m.P i).length:Int))/\
         lw (at' (at' m.P i) j) λr2=>
         an (!r2)
          (Q 3)
          (rng (j+1)/\
          next2 (j+1)))
         (rng (i+1)/\
         next1 (i+1))))
      (Q 0))))
def mG (events:Int) (phases:Int) (Q:List GNode->Prop):Prop:=
 bn (σ:=Int×(List GNode)) (0,[]) λ⟨i,out⟩ next1=>
  an (decide (i<events))
   (bn (σ:=Int×(List GNode)) (1,out) λ⟨j,out1⟩ next2=>
    an (decide (j<phases))
     (bn (σ:=Int×(List Int)) (0,[]) λ⟨k1,x⟩ next3=>
      an (decide (k1<=j))
       (rng (i*phases)/\
       rng ((i*phases)+k1)/\
       ((x++[((i*phases)+k1)]).length*8<=140737488355328)/\
       rng (k1+1)/\
       next3 ((k1+1),(x++[((i*phases)+k1)])))
       (((out1++[(⟨3,0,x⟩:GNode)]).length*40<=140737488355328)/\
       rng (j+1)/\
       next2 ((j+1),(out1++[(⟨3,0,x⟩:GNode)]))))
     (rng (i+1)/\
     next1 ((i+1),out1)))
   (Q out)
def ke (m:GMission) (j:Int) (arg:Int) (first:Int) (Q:Int->Prop):Prop:=
 ee (cQ m) λn=>
 an (decide (n<=arg))
  (rng (first+arg)/\
  rng ((first+arg)-n)/\
  Q ((first+arg)-n))
  (an (j == 0)
   (rng (arg*(m.N.length:Int))/\
   Q (arg*(m.N.length:Int)))
   (rng (n*(m.N.length:Int))/\
   rng ((m.N.length:Int)-1)/\
   rng (arg*((m.N.length:Int)-1))/\
   rng ((n*(m.N.length:Int))+(arg*((m.N.length:Int)-1)))/\
   rng (((n*(m.N.length:Int))+(arg*((m.N.length:Int)-1)))+j)/\
   rng ((((n*(m.N.length:Int))+(arg*((m.N.length:Int)-1)))+j)-1)/\
   Q ((((n*(m.N.length:Int))+(arg*((m.N.length:Int)-1)))+j)-1)))
def lX (m:GMission) (Q:GFormula->List GRat->Int->Prop):Prop:=
 ee (cQ m) λn=>
 rng (n*(m.N.length:Int))/\
 mG n (m.N.length:Int) λr=>
 bn (σ:=Int×(List GNode)×(List Int)) (0,r,[]) λ⟨j,x,x1⟩ next1=>
  an (decide (j<(m.N.length:Int)))
   (((0:Int)<=j/\j<(m.N.length:Int))/\
   rng ((n*(m.N.length:Int))+(x.length:Int))/\
   bn (σ:=Int×(List GNode)) (0,x) λ⟨i,x2⟩ next2=>
    an (decide (i<(((at' m.N j).V).length:Int)))
     (((0:Int)<=i/\i<(((at' m.N j).V).length:Int))/\
     ((0:Int)<=i/\i<(((at' m.N j).V).length:Int))/\
     bn (σ:=Int×(List Int)) (0,[]) λ⟨a,x3⟩ next3=>
      ((0:Int)<=i/\i<(((at' m.N j).V).length:Int))/\
      an (decide (a<(((at' ((at' m.N j).V) i).M).length:Int)))
       (((0:Int)<=i/\i<(((at' m.N j).V).length:Int))/\
       ((0:Int)<=a/\a<(((at' ((at' m.N j).V) i).M).length:Int))/\
       ee (ke m j (at' ((at' ((at' m.N j).V) i).M) a) ((n*(m.N.length:Int))+(x.length:Int))) λr1=>
       ((x3++[r1]).length*8<=140737488355328)/\
       rng (a+1)/\
       next3 ((a+1),(x3++[r1])))
       (((x2++[(⟨(at' ((at' m.N j).V) i).D,(at' ((at' m.N j).V) i).K,x3⟩:GNode)]).length*40<=140737488355328)/\
       rng (i+1)/\
       next2 ((i+1),(x2++[(⟨(at' ((at' m.N j).V) i).D,(at' ((at' m.N j).V) i).K,x3⟩:GNode)]))))
     (ee (ke m j ((at' m.N j).F) ((n*(m.N.length:Int))+(x.length:Int))) λr2=>
     ((x1++[r2]).length*8<=140737488355328)/\
     rng (j+1)/\
     next1 ((j+1),x2,(x1++[r2]))))
   (((0:Int)<=0/\0<(x1.length:Int))/\
   dt (α:=Int×(List GNode)) (λnext5=>
    an (decide (1<(m.N.length:Int)))
     (rng ((n*(m.N.length:Int))+(x.length:Int))/\
     ((x++[(⟨3,0,x1⟩:GNode)]).length*40<=140737488355328)/\
     next5 (((n*(m.N.length:Int))+(x.length:Int)),(x++[(⟨3,0,x1⟩:GNode)])))
     (next5 ((at' x1 0),x)))
    λ⟨x4,x5⟩=>
    an (decide (128<(x5.length:Int)))
     (Q (⟨0,[],0⟩:GFormula) [] 4)
     (bn (σ:=Int×(List GRat)) (0,[]) λ⟨i1,p⟩ next4=>
      an (decide (i1<n))
       (((0:Int)<=i1/\i1<(m.P.length:Int))/\
       ((p++(at' m.P i1)).length*56<=140737488355328)/\
       rng (i1+1)/\
       next4 ((i1+1),(p++(at' m.P i1))))
       (Q (⟨(n*(m.N.length:Int)),x5,x4⟩:GFormula) p 0)))
def gu (m:GMission) (Q:GRat->Option Int->Prop):Prop:=
 kS m λr r1 r2=>
 an (isSome r2)
  (Q (⟨false,[],[]⟩:GRat) r2)
  (mW r r1 λr3 r4=>
  Q r3 r4)
def iC (m:GMission) (Q:List GRat->Option Int->Prop):Prop:=
 fP m λerr=>
 an (isSome err)
  (Q [] err)
  (bn (σ:=Int×Int) (1,0) λ⟨all,x⟩ next1=>
   an (decide (x<(m.P.length:Int)))
    (rng ((m.N.length:Int)+1)/\
    rng (all*((m.N.length:Int)+1))/\
    an (decide (4096<(all*((m.N.length:Int)+1))))
     (Q [] (some 4))
     (rng (x+1)/\
     next1 ((all*((m.N.length:Int)+1)),(x+1))))
    (kV 56 (m.N.length:Int) (m.N.length:Int)/\
    bn (σ:=Int×(List GRat)) (0,(bT (m.N.length:Int) (⟨false,[],[]⟩:GRat))) λ⟨x1,out⟩ next2=>
     an (decide (x1<all))
      (kV 8 (m.P.length:Int) (m.P.length:Int)/\
      bn (σ:=Int×Int×(List Int)) (x1,0,(bT (m.P.length:Int) 0)) λ⟨number,x2,h1⟩ next3=>
       an (decide (x2<((toNat (m.P.length:Int)):Int)))
        (rng ((m.N.length:Int)+1)/\
        ((m.N.length:Int)+1)≠0/\
        rng ((m.N.length:Int)+1)/\
        (((m.N.length:Int)+1)≠0/\rng (tdiv number ((m.N.length:Int)+1)))/\
        ((0:Int)<=x2/\x2<(h1.length:Int))/\
        rng (x2+1)/\
        next3 ((tdiv number ((m.N.length:Int)+1)),(x2+1),(bu h1 x2 (tmod number ((m.N.length:Int)+1)))))
        (l9 m h1 λr r1=>
        an (isSome r1)
         (Q [] r1)
         (an (r == (m.N.length:Int))
          (rng (x1+1)/\
          next2 ((x1+1),out))
          (kQ m h1 λr2 r3=>
          an (isSome r3)
           (Q [] r3)
           (((0:Int)<=r/\r<(out.length:Int))/\
           ee (d7 (at' out r) r2) λr4=>
           ((0:Int)<=r/\r<(out.length:Int))/\
           rng (x1+1)/\
           next2 ((x1+1),(bu out r r4)))))))
      (Q out none)))
def iX (m:GMission) (j:Int) (Q:Option Int->Prop):Prop:=
 fP m λerr=>
 an (isSome err)
  (Q err)
  (dt (α:=Bool) (λnext1=>
   an (decide (j<0))
    (next1 true)
    (next1 (decide ((m.N.length:Int)<=j))))
   λx=>
   an x
    (Q (some 10))
    (Q none))
def iv (f:GFormula) (Q:GFormula->Prop):Prop:=
 bn (σ:=Int×(List GNode)) (0,[]) λ⟨x,x1⟩ next1=>
  an (decide (x<(f.V.length:Int)))
   (((0:Int)<=x/\x<(f.V.length:Int))/\
   ee (fE ((at' f.V x).M)) λr=>
   ((x1++[(⟨(at' f.V x).D,(at' f.V x).K,r⟩:GNode)]).length*40<=140737488355328)/\
   rng (x+1)/\
   next1 ((x+1),(x1++[(⟨(at' f.V x).D,(at' f.V x).K,r⟩:GNode)])))
   (Q (⟨f.A,x1,f.F⟩:GFormula))
def nk (x:GRat) (Q:GRat->Prop):Prop:=
 ee (cU x.J) λr=>
 ee (cU x.L) λr1=>
 Q (⟨x.Y,r,r1⟩:GRat)
def gf (m:GMission) (j:Int) (Q:List GFormula->List (List GRat)->Prop):Prop:=
 iX m j λerr=>
 an (isSome err)
  (False)
  (rng (j+1)/\
  ((0:Int)<=0/\0<=(j+1)/\(j+1)<=(m.N.length:Int))/\
  bn (σ:=Int×(List GFormula)) (0,[]) λ⟨x,x1⟩ next1=>
   an (decide (x<((cg m.N 0 (j+1)).length:Int)))
    (((0:Int)<=x/\x<((cg m.N 0 (j+1)).length:Int))/\
    ee (iv (at' (cg m.N 0 (j+1)) x)) λr=>
    ((x1++[r]).length*40<=140737488355328)/\
    rng (x+1)/\
    next1 ((x+1),(x1++[r])))
    (bn (σ:=Int×(List (List GRat))) (0,([]:List (List GRat))) λ⟨x2,x3⟩ next2=>
     an (decide (x2<(m.P.length:Int)))
      (((0:Int)<=x2/\x2<(m.P.length:Int))/\
      rng (j+1)/\
      ((0:Int)<=0/\0<=(j+1)/\(j+1)<=((at' m.P x2).length:Int))/\
      bn (σ:=Int×(List GRat)) (0,[]) λ⟨x4,row⟩ next3=>
       an (decide (x4<((cg (at' m.P x2) 0 (j+1)).length:Int)))
        (((0:Int)<=x4/\x4<((cg (at' m.P x2) 0 (j+1)).length:Int))/\
        nk (at' (cg (at' m.P x2) 0 (j+1)) x4) λr1=>
        ((row++[r1]).length*56<=140737488355328)/\
        rng (x4+1)/\
        next3 ((x4+1),(row++[r1])))
        (((x3++[row]).length*24<=140737488355328)/\
        rng (x2+1)/\
        next2 ((x2+1),(x3++[row]))))
      (Q x1 x3)))
def kW (m:GMission) (j:Int) (share:GRat) (Q:GMission->Option Int->Prop):Prop:=
 iX m j λerr=>
 an (isSome err)
  (Q (⟨[],[]⟩:GMission) err)
  (rng ((m.N.length:Int)+1)/\
  gn share λr=>
  an (!r)
   (Q (⟨[],[]⟩:GMission) (some 3))
   (dt (α:=Bool) (λnext3=>
    an (decide (6<((m.N.length:Int)+1)))
     (next3 true)
     (rng (((m.N.length:Int)+1)*(m.P.length:Int))/\
     next3 (decide (24<(((m.N.length:Int)+1)*(m.P.length:Int))))))
    λx=>
    an x
     (Q (⟨[],[]⟩:GMission) (some 4))
     (rng ((m.N.length:Int)-1)/\
     gf m ((m.N.length:Int)-1) λr1 r2=>
     ((0:Int)<=j/\j<(m.N.length:Int))/\
     ee (iv (at' m.N j)) λr3=>
     ((0:Int)<=j/\j<=(r1.length:Int))/\
     ((r1.length + [r3].length)*40<=140737488355328)/\
     dW 1 λr4=>
     bn (σ:=Int×(List (List GRat))) (0,r2) λ⟨x1,x2⟩ next1=>
      an (decide (x1<(r2.length:Int)))
       (((0:Int)<=x1/\x1<(x2.length:Int))/\
       ((0:Int)<=j/\j<((at' x2 x1).length:Int))/\
       ee (dl share (at' (at' x2 x1) j)) λr5=>
       ((0:Int)<=j/\j<((at' x2 x1).length:Int))/\
       ee (d6 (at' (at' x2 x1) j) r5) λr6=>
       ee (d6 r4 r5) λr7=>
       EA (gW r6 r7) λr8 r9=>
       dt (α:=GRat) (λnext2=>
        an (isSome r9)
         (next2 (⟨false,[],[]⟩:GRat))
         (next2 r8))
        λx3=>
        ((0:Int)<=j/\j<((at' x2 x1).length:Int))/\
        ((0:Int)<=j/\j<=((bu (at' x2 x1) j x3).length:Int))/\
        (((bu (at' x2 x1) j x3).length + [r5].length)*56<=140737488355328)/\
        ((0:Int)<=x1/\x1<(x2.length:Int))/\
        rng (x1+1)/\
        next1 ((x1+1),(bu x2 x1 (fr (bu (at' x2 x1) j x3) j [r5]))))
       (Q (⟨(fr r1 j [r3]),x2⟩:GMission) none))))
def fz (m:GMission) (Q:Int->Prop):Prop:=
 bn (σ:=Int×Int) (1,0) λ⟨n,i⟩ next1=>
  cQ m λr=>
  an (decide (i<r))
   (an (decide (n<=4096))
    (rng ((m.N.length:Int)+1)/\
    rng (n*((m.N.length:Int)+1))/\
    rng (i+1)/\
    next1 ((n*((m.N.length:Int)+1)),(i+1)))
    (Q n))
   (Q n)
def i4 (m:GMission) (j:Int) (share:GRat) (Q:Int->Prop):Prop:=
 an (decide (j<0))
  (Q 10)
  (an (decide ((m.N.length:Int)<=j))
   (Q 10)
   (lw share λr=>
   an (!r)
    (Q 3)
    (an ((m.N.length:Int) == 6)
     (Q 4)
     (ee (cQ m) λr1=>
     rng ((m.N.length:Int)+1)/\
     rng (r1*((m.N.length:Int)+1))/\
     an (decide (24<(r1*((m.N.length:Int)+1))))
      (Q 4)
      (Q 0)))))
def jY (f:GFormula) (Q:Bool->Prop):Prop:=
 m9 f λbelow=>
 bn (σ:=Int) 0 λi next1=>
  an (decide (i<(f.V.length:Int)))
   (rng (f.A+i)/\
   ((0:Int)<=(f.A+i)/\(f.A+i)<(below.length:Int))/\
   an (at' below (f.A+i))
    (((0:Int)<=i/\i<(f.V.length:Int))/\
    an ((at' f.V i).D == 1)
     (Q false)
     (((0:Int)<=i/\i<(f.V.length:Int))/\
     an ((at' f.V i).D == 5)
      (Q false)
      (rng (i+1)/\
      next1 (i+1))))
    (rng (i+1)/\
    next1 (i+1)))
   (Q true)
def iy (n:Int) (d:Int) (Q:GRat->Prop):Prop:=
 lx n d λr _=>
 Q r
def iY (Q:GMission->Prop):Prop:=
 iy 1 2 λr=>
 Q (⟨[(⟨2,[(⟨2,0,[0,1]⟩:GNode)],2⟩:GFormula),(⟨2,[(⟨3,0,[0,1]⟩:GNode)],2⟩:GFormula)],[[r,r],[r,r]]⟩:GMission)
def kr (Q:Bool->Prop):Prop:=
 iY λr=>
 iC r λr1 r2=>
 iY λr3=>
 gu r3 λr4 r5=>
 an (isNone r2)
  (an (isNone r5)
   (ee (iy 15 16) λr6=>
   ee (oz r4 r6) λr7=>
   an r7
    (ee (iy 1 4) λr8=>
    ee (iy 11 16) λr9=>
    ee (mR r1 [r8,r9]) λr10=>
    Q r10)
    (Q false))
   (Q false))
  (Q false)
def np (m:GMission) (Q:Bool->Prop):Prop:=
 an (decide (20<(m.N.length:Int)))
  (Q true)
  (an (decide (50<(m.P.length:Int)))
   (Q true)
   (bn (σ:=Int) 0 λi next1=>
    an (decide (i<(m.P.length:Int)))
     (((0:Int)<=i/\i<(m.P.length:Int))/\
     an (decide (50<((at' m.P i).length:Int)))
      (Q true)
      (bn (σ:=Int) 0 λj next2=>
       ((0:Int)<=i/\i<(m.P.length:Int))/\
       an (decide (j<((at' m.P i).length:Int)))
        (((0:Int)<=i/\i<(m.P.length:Int))/\
        ((0:Int)<=j/\j<((at' m.P i).length:Int))/\
        an (decide (4<(((at' (at' m.P i) j).J).length:Int)))
         (Q true)
         (((0:Int)<=i/\i<(m.P.length:Int))/\
         ((0:Int)<=j/\j<((at' m.P i).length:Int))/\
         an (decide (4<(((at' (at' m.P i) j).L).length:Int)))
          (Q true)
          (rng (j+1)/\
          next2 (j+1))))
        (rng (i+1)/\
        next1 (i+1))))
     (gB m λr=>
     an (r == 0)
      (fz m λr1=>
      an (decide (300<r1))
       (fz m λr2=>
       Q (decide (r2<=4096)))
       (Q false))
      (Q false))))
def oh (m:GMission) (Q:Bool->Prop):Prop:=
 gB m λr=>
 an (r == 0)
  (fz m λr1=>
  Q (decide (4096<r1)))
  (Q false)
def oG (m:GMission) (Q:Int->Prop):Prop:=
 lX m λ_ _ r2=>
 Q r2
def nl (m:GMission) (Q:Bool->Prop):Prop:=
 np m λr=>
 an (!r)
  (gB m λr1=>
  an (r1 == 0)
   (oh m λr2=>
   an (!r2)
    (oG m λr3=>
    Q (r3 == 0))
    (Q false))
   (Q false))
  (Q false)
def j2 (m:GMission) (Q:Bool->Prop):Prop:=
 bn (σ:=Int) 0 λj next1=>
  an (decide (j<(m.N.length:Int)))
   (((0:Int)<=j/\j<(m.N.length:Int))/\
   jY (at' m.N j) λr=>
   an (!r)
    (Q false)
    (rng (j+1)/\
    next1 (j+1)))
   (Q true)
def ol (m:GMission) (share:GRat) (Q:Bool->Prop):Prop:=
 bn (σ:=Int×(List GRat)) (0,[share]) λ⟨x,list⟩ next1=>
  an (decide (x<(m.P.length:Int)))
   (((0:Int)<=x/\x<(m.P.length:Int))/\
   ((list++(at' m.P x)).length*56<=140737488355328)/\
   rng (x+1)/\
   next1 ((x+1),(list++(at' m.P x))))
   (bn (σ:=Int) 0 λx1 next2=>
    an (decide (x1<(list.length:Int)))
     (((0:Int)<=x1/\x1<(list.length:Int))/\
     an (decide (1<(((at' list x1).J).length:Int)))
      (Q true)
      (an (decide (1<(((at' list x1).L).length:Int)))
       (Q true)
       (rng (x1+1)/\
       next2 (x1+1))))
     (Q false))
def jV (m:GMission) (j:Int) (share:GRat) (Q:Bool->Prop):Prop:=
 dt (α:=Bool) (λnext1=>
  kr λr10=>
  an (!r10)
   (next1 true)
   (nl m λr11=>
   an (!r11)
    (next1 true)
    (j2 m λr12=>
    an (!r12)
     (next1 true)
     (cQ m λr13=>
     an (decide (5<r13))
      (next1 true)
      (ol m share λr14=>
      an r14
       (next1 true)
       (i4 m j share λr15=>
       next1 (r15 != 0)))))))
  λx=>
  an x
   (kr λr=>
   Q r)
   (kW m j share λr1 r2=>
   an (isSome r2)
    (Q false)
    (gB r1 λr3=>
    an (r3 != 0)
     (Q false)
     (gu m λr4 r5=>
     gu r1 λr6 r7=>
     an (isSome r7)
      (tc r7 4 λr8=>
      an r8
       (Q (isNone r5))
       (Q false))
      (an (isNone r5)
       (gU r4 r6 λr9=>
       Q (r9 == 0))
       (Q false)))))
end Go.Gg
