/- The structures of the program and how they are encoded. Conditions: none. -/
import Derived.Test.YtnjgdkfhgmebjaaGreatGc
import Derived.Test.YtnjgdkfhgmebjaaGreatGf
import Derived.Test.YtnjgdkfhgmebjaaGreatGd
namespace Go.Gg
structure GNode where
 Kind:Int
 K:Int
 Args:List Int
instance:Inhabited GNode:=⟨⟨0,0,[]⟩⟩
def aS (r:GNode):AV:=.agg [.int .i64 r.Kind,.int .i64 r.K,eL (AV.int .i64) r.Args]
structure GFormula where
 Vars:Int
 Nodes:List GNode
 Top:Int
instance:Inhabited GFormula:=⟨⟨0,[],0⟩⟩
def aj (r:GFormula):AV:=.agg [.int .i64 r.Vars,eL aS r.Nodes,.int .i64 r.Top]
structure GRat where
 Neg:Bool
 Num:List Int
 Den:List Int
instance:Inhabited GRat:=⟨⟨false,[],[]⟩⟩
def ak (r:GRat):AV:=.agg [.bool r.Neg,eL (AV.int .u32) r.Num,eL (AV.int .u32) r.Den]
structure GCauseGroup where
 Kind:Int
 Members:List Int
 Factors:List GRat
instance:Inhabited GCauseGroup:=⟨⟨0,[],[]⟩⟩
structure GCauses where
 P:List GRat
 Groups:List GCauseGroup
instance:Inhabited GCauses:=⟨⟨[],[]⟩⟩
structure GMission where
 Phases:List GFormula
 P:List (List GRat)
instance:Inhabited GMission:=⟨⟨[],[]⟩⟩
def ay (r:GMission):AV:=.agg [eL aj r.Phases,eL (eL ak) r.P]
structure GCube where
 Yes:Int
 No:Int
instance:Inhabited GCube:=⟨⟨0,0⟩⟩
structure Gcause where
 p:GRat
 members:List Int
instance:Inhabited Gcause:=⟨⟨default,[]⟩⟩
structure GDNode where
 Var:Int
 Lo:Int
 Hi:Int
instance:Inhabited GDNode:=⟨⟨0,0,0⟩⟩
def aO (r:GDNode):AV:=.agg [.int .i64 r.Var,.int .i64 r.Lo,.int .i64 r.Hi]
structure GDiagram where
 Order:List Int
 Nodes:List GDNode
 Root:Int
instance:Inhabited GDiagram:=⟨⟨[],[],0⟩⟩
def fk (r:GDiagram):AV:=.agg [eL (AV.int .i64) r.Order,eL aO r.Nodes,.int .i64 r.Root]
structure GZero where
 Nodes:List GDNode
 Root:Int
instance:Inhabited GZero:=⟨⟨[],0⟩⟩
structure Gtable where
 events:List Int
 true:List Bool
instance:Inhabited Gtable:=⟨⟨[],[]⟩⟩
structure Gwalk where
 Formula:GFormula
 events:List Int
 seen:List Bool
instance:Inhabited Gwalk:=⟨⟨default,[],[]⟩⟩
structure GsetsKey where
 op:Int
 a:Int
 b:Int
instance:Inhabited GsetsKey:=⟨⟨0,0,0⟩⟩
end Go.Gg
namespace Go.Gg
def gC:ByteArray:=⟨#[0,1,2,2,3,3,3,3,4,4,4,4,4,4,4,4,5,5,5,5,5,5,5,5,5,5,5,5,5,5,5,5,6,6,6,6,6,6,6,6,6,6,6,6,6,6,6,6,6,6,6,6,6,6,6,6,6,6,6,6,6,6,6,6,7,7,7,7,7,7,7,7,7,7,7,7,7,7,7,7,7,7,7,7,7,7,7,7,7,7,7,7,7,7,7,7,7,7,7,7,7,7,7,7,7,7,7,7,7,7,7,7,7,7,7,7,7,7,7,7,7,7,7,7,7,7,7,7,8,8,8,8,8,8,8,8,8,8,8,8,8,8,8,8,8,8,8,8,8,8,8,8,8,8,8,8,8,8,8,8,8,8,8,8,8,8,8,8,8,8,8,8,8,8,8,8,8,8,8,8,8,8,8,8,8,8,8,8,8,8,8,8,8,8,8,8,8,8,8,8,8,8,8,8,8,8,8,8,8,8,8,8,8,8,8,8,8,8,8,8,8,8,8,8,8,8,8,8,8,8,8,8,8,8,8,8,8,8,8,8,8,8,8,8,8,8,8,8,8,8,8,8,8,8,8,8]⟩
def bT (a:List Int) (Q:List Int->Prop):Prop:=
 dk (α:=Int) (λnext1=>
  bh (σ:=Int) (a.length:Int) λn1 next2=>
   ah (decide (0<n1))
    (rng (n1-1)/\
    ((0:Int)<=(n1-1)/\(n1-1)<(a.length:Int))/\
    ah ((at' a (n1-1)) == 0)
     (rng (n1-1)/\
     next2 (n1-1))
     (next1 n1))
    (next1 n1))
  λn=>
  ah (n == 0)
   (Q [])
   (((0:Int)<=0/\0<=n/\n<=(a.length:Int))/\
   (([]++(cB a 0 n)).length*4<=140737488355328)/\
   Q ([]++(cB a 0 n)))
def dq (a:List Int) (b:List Int) (Q:Int->Prop):Prop:=
 bT a λa1=>
 bT b λb1=>
 ah ((a1.length:Int) != (b1.length:Int))
  (ah (decide ((a1.length:Int)<(b1.length:Int)))
   (Q (-1))
   (Q 1))
  (rng ((a1.length:Int)-1)/\
  bh (σ:=Int) ((a1.length:Int)-1) λi next1=>
   ah (decide (0<=i))
    (((0:Int)<=i/\i<(a1.length:Int))/\
    ((0:Int)<=i/\i<(b1.length:Int))/\
    ah (decide ((at' a1 i)<(at' b1 i)))
     (Q (-1))
     (((0:Int)<=i/\i<(a1.length:Int))/\
     ((0:Int)<=i/\i<(b1.length:Int))/\
     ah (decide ((at' b1 i)<(at' a1 i)))
      (Q 1)
      (rng (i-1)/\
      next1 (i-1))))
    (Q 0))
def kw (n:Int) (Q:List Int->Prop):Prop:=
 ah (decide (n<=0))
  (Q [])
  (bT [(IntKind.wrap .u32 n),(IntKind.wrap .u32 (n / 2^(Int.toNat 32)))] λr=>
  Q r)
def ie (a:List Int) (b:Int) (Q:List Int->Int->Prop):Prop:=
 jn 4 (a.length:Int) (a.length:Int)/\
 rng ((a.length:Int)-1)/\
 bh (σ:=Int×Int×(List Int)) (0,((a.length:Int)-1),(bu (a.length:Int) 0)) λ⟨rest,i,out⟩ next1=>
  ah (decide (0<=i))
   (((0:Int)<=i/\i<(a.length:Int))/\
   ko (bits .or .u64 (IntKind.wrap .u64 (rest*2^(Int.toNat 32))) (IntKind.wrap .u64 (at' a i))) λrest1=>
   (IntKind.wrap .u64 b)≠0/\
   ((0:Int)<=i/\i<(out.length:Int))/\
   (IntKind.wrap .u64 b)≠0/\
   rng (i-1)/\
   next1 ((Int.tmod rest1 (IntKind.wrap .u64 b)),(i-1),(bq out i (IntKind.wrap .u32 (IntKind.wrap .u64 (Int.tdiv rest1 (IntKind.wrap .u64 b)))))))
   (bT out λr=>
   Q r (IntKind.wrap .u32 rest))
def fX (x:Int) (Q:Int->Prop):Prop:=
 dk (α:=Int×Int) (λnext2=>
  ah (decide (65536<=x))
   (next2 ((x / 2^(Int.toNat 16)),16))
   (next2 (x,0)))
  λ⟨x1,n⟩=>
  dk (α:=Int×Int) (λnext1=>
   ah (decide (256<=x1))
    (rng (n+8)/\
    next1 ((x1 / 2^(Int.toNat 8)),(n+8)))
    (next1 (x1,n)))
   λ⟨x2,n1⟩=>
   ((0:Int)<=(IntKind.wrap .u8 x2)/\(IntKind.wrap .u8 x2)<(gC.size:Int))/\
   rng (n1+(IntKind.wrap .i64 (pQ gC (Int.toNat (IntKind.wrap .u8 x2)))))/\
   ko (n1+(IntKind.wrap .i64 (pQ gC (Int.toNat (IntKind.wrap .u8 x2))))) λn2=>
   Q n2
def eB (x:Int) (Q:Int->Prop):Prop:=
 fX x λr=>
 rng (32-r)/\
 Q (32-r)
def eA (a:List Int) (n:Int) (Q:List Int->Prop):Prop:=
 rng ((a.length:Int)+1)/\
 jn 4 ((a.length:Int)+1) ((a.length:Int)+1)/\
 bh (σ:=Int×(List Int)) (0,(bu ((a.length:Int)+1) 0)) λ⟨x,out⟩ next1=>
  ah (decide (x<(a.length:Int)))
   (((0:Int)<=x/\x<(a.length:Int))/\
   ((0:Int)<=n/\n<=64)/\
   ko (IntKind.wrap .u64 ((IntKind.wrap .u64 (at' a x))*2^(Int.toNat n))) λy1=>
   ((0:Int)<=x/\x<(out.length:Int))/\
   ((0:Int)<=x/\x<(out.length:Int))/\
   rng (x+1)/\
   ((0:Int)<=(x+1)/\(x+1)<(out.length:Int))/\
   rng (x+1)/\
   next1 ((x+1),(bq (bq out x (bits .or .u32 (at' out x) (IntKind.wrap .u32 y1))) (x+1) (IntKind.wrap .u32 (y1 / 2^(Int.toNat 32))))))
   (Q out)
def cP (a:List Int) (i:Int) (Q:Int->Prop):Prop:=
 ah (decide (i<(a.length:Int)))
  (((0:Int)<=i/\i<(a.length:Int))/\
  Q (IntKind.wrap .u64 (at' a i)))
  (Q 0)
def kV (u:List Int) (uo:Nat) (ul:Nat) (v:List Int) (n:Int) (Q:List Int->Bool->Prop):Prop:=
 bh (σ:=Int×Int×Int×(List Int)) (0,0,0,u) λ⟨carry,borrow,x,u1⟩ next1=>
  ah (decide (x<(ul:Int)))
   (cP v x λr=>
   ko (IntKind.wrap .u64 (carry+(IntKind.wrap .u64 (n*r)))) λcarry1=>
   ((0:Int)<=x/\x<(ul:Int))/\
   (Int.toNat ((uo:Int)+x))<u1.length/\
   ko (IntKind.wrap .u64 ((IntKind.wrap .u64 ((IntKind.wrap .u64 (at' u1 ((uo:Int)+x)))-(IntKind.wrap .u64 (IntKind.wrap .u32 carry1))))-borrow)) λd=>
   ((0:Int)<=x/\x<(ul:Int))/\
   (Int.toNat ((uo:Int)+x))<u1.length/\
   rng (x+1)/\
   next1 ((carry1 / 2^(Int.toNat 32)),(d / 2^(Int.toNat 63)),(x+1),(bq u1 ((uo:Int)+x) (IntKind.wrap .u32 d))))
   (Q u1 (borrow == 1))
def kW (u:List Int) (uo:Nat) (ul:Nat) (v:List Int) (Q:List Int->Prop):Prop:=
 bh (σ:=Int×Int×(List Int)) (0,0,u) λ⟨carry,x,u1⟩ next1=>
  ah (decide (x<(ul:Int)))
   (((0:Int)<=x/\x<(ul:Int))/\
   (Int.toNat ((uo:Int)+x))<u1.length/\
   eJ (cP v x) λr=>
   ((0:Int)<=x/\x<(ul:Int))/\
   (Int.toNat ((uo:Int)+x))<u1.length/\
   ko ((IntKind.wrap .u64 (carry+(IntKind.wrap .u64 ((IntKind.wrap .u64 (at' u1 ((uo:Int)+x)))+r)))) / 2^(Int.toNat 32)) λcarry1=>
   rng (x+1)/\
   next1 (carry1,(x+1),(bq u1 ((uo:Int)+x) (IntKind.wrap .u32 (IntKind.wrap .u64 (carry+(IntKind.wrap .u64 ((IntKind.wrap .u64 (at' u1 ((uo:Int)+x)))+r))))))))
   (Q u1)
def ig (a:List Int) (n:Int) (Q:List Int->Prop):Prop:=
 jn 4 (a.length:Int) (a.length:Int)/\
 bh (σ:=Int×(List Int)) (0,(bu (a.length:Int) 0)) λ⟨x,out⟩ next1=>
  ah (decide (x<(a.length:Int)))
   (cP a x λr=>
   rng (x+1)/\
   cP a (x+1) λr1=>
   ((0:Int)<=n/\n<=64)/\
   ((0:Int)<=x/\x<(out.length:Int))/\
   rng (x+1)/\
   next1 ((x+1),(bq out x (IntKind.wrap .u32 ((bits .or .u64 r (IntKind.wrap .u64 (r1*2^(Int.toNat 32)))) / 2^(Int.toNat n))))))
   (Q out)
def hH (a:List Int) (b:List Int) (Q:List Int->List Int->Option Int->Prop):Prop:=
 bT a λa1=>
 bT b λb1=>
 ah ((b1.length:Int) == 0)
  (Q [] [] (some 8))
  (dq a1 b1 λr=>
  ah (decide (r<0))
   (Q [] a1 none)
   (ah ((b1.length:Int) == 1)
    (((0:Int)<=0/\0<(b1.length:Int))/\
    ie a1 (at' b1 0) λr1 r2=>
    kw (IntKind.wrap .i64 r2) λr3=>
    Q r1 r3 none)
    (rng ((b1.length:Int)-1)/\
    ((0:Int)<=((b1.length:Int)-1)/\((b1.length:Int)-1)<(b1.length:Int))/\
    eB (at' b1 ((b1.length:Int)-1)) λn=>
    eA b1 n λr4=>
    ((0:Int)<=0/\0<=(b1.length:Int)/\(b1.length:Int)<=(r4.length:Int))/\
    ko (cB r4 0 (b1.length:Int)) λv=>
    eA a1 n λu=>
    rng ((v.length:Int)-1)/\
    ((0:Int)<=((v.length:Int)-1)/\((v.length:Int)-1)<(v.length:Int))/\
    rng ((v.length:Int)-2)/\
    ((0:Int)<=((v.length:Int)-2)/\((v.length:Int)-2)<(v.length:Int))/\
    rng ((u.length:Int)-(v.length:Int))/\
    jn 4 ((u.length:Int)-(v.length:Int)) ((u.length:Int)-(v.length:Int))/\
    rng (((Int.toNat ((u.length:Int)-(v.length:Int))):Int)-1)/\
    ko (((Int.toNat ((u.length:Int)-(v.length:Int))):Int)-1) λj=>
    bh (σ:=Int×(List Int)×(List Int)) (j,u,(bu ((u.length:Int)-(v.length:Int)) 0)) λ⟨j1,u1,q⟩ next1=>
     ah (decide (0<=j1))
      (rng (j1+(v.length:Int))/\
      ((0:Int)<=(j1+(v.length:Int))/\(j1+(v.length:Int))<(u1.length:Int))/\
      rng (j1+(v.length:Int))/\
      rng ((j1+(v.length:Int))-1)/\
      ((0:Int)<=((j1+(v.length:Int))-1)/\((j1+(v.length:Int))-1)<(u1.length:Int))/\
      (IntKind.wrap .u64 (at' v ((v.length:Int)-1)))≠0/\
      (IntKind.wrap .u64 (at' v ((v.length:Int)-1)))≠0/\
      dk (α:=Int) (λnext3=>
       bh (σ:=Int×Int) ((IntKind.wrap .u64 (Int.tdiv (bits .or .u64 (IntKind.wrap .u64 ((IntKind.wrap .u64 (at' u1 (j1+(v.length:Int))))*2^(Int.toNat 32))) (IntKind.wrap .u64 (at' u1 ((j1+(v.length:Int))-1)))) (IntKind.wrap .u64 (at' v ((v.length:Int)-1))))),(Int.tmod (bits .or .u64 (IntKind.wrap .u64 ((IntKind.wrap .u64 (at' u1 (j1+(v.length:Int))))*2^(Int.toNat 32))) (IntKind.wrap .u64 (at' u1 ((j1+(v.length:Int))-1)))) (IntKind.wrap .u64 (at' v ((v.length:Int)-1))))) λ⟨guess2,rest⟩ next4=>
        dk (α:=Unit) (λnext5=>
         ah (decide (4294967296<=guess2))
          (next5 ())
          (rng (j1+(v.length:Int))/\
          rng ((j1+(v.length:Int))-2)/\
          ((0:Int)<=((j1+(v.length:Int))-2)/\((j1+(v.length:Int))-2)<(u1.length:Int))/\
          ah (decide ((bits .or .u64 (IntKind.wrap .u64 (rest*2^(Int.toNat 32))) (IntKind.wrap .u64 (at' u1 ((j1+(v.length:Int))-2))))<(IntKind.wrap .u64 (guess2*(IntKind.wrap .u64 (at' v ((v.length:Int)-2)))))))
           (next5 ())
           (next3 guess2)))
         λ_=>
         ko (IntKind.wrap .u64 (rest+(IntKind.wrap .u64 (at' v ((v.length:Int)-1))))) λrest1=>
         ah (decide (4294967296<=rest1))
          (next3 (IntKind.wrap .u64 (guess2-1)))
          (next4 ((IntKind.wrap .u64 (guess2-1)),rest1)))
       λguess=>
       dk (α:=Int×(List Int)) (λnext2=>
        rng (j1+(v.length:Int))/\
        rng ((j1+(v.length:Int))+1)/\
        ((0:Int)<=j1/\j1<=((j1+(v.length:Int))+1)/\((j1+(v.length:Int))+1)<=(u1.length:Int))/\
        kV u1 (0+Int.toNat j1) (Int.toNat ((j1+(v.length:Int))+1)-Int.toNat j1) v guess λu3 r5=>
        u3.length=u1.length/\
        ah r5
         (rng (j1+(v.length:Int))/\
         rng ((j1+(v.length:Int))+1)/\
         ((0:Int)<=j1/\j1<=((j1+(v.length:Int))+1)/\((j1+(v.length:Int))+1)<=(u1.length:Int))/\
         kW u3 (0+Int.toNat j1) (Int.toNat ((j1+(v.length:Int))+1)-Int.toNat j1) v λu4=>
         u4.length=u3.length/\
         next2 ((IntKind.wrap .u64 (guess-1)),u4))
         (next2 (guess,u3)))
        λ⟨guess1,u2⟩=>
        ((0:Int)<=j1/\j1<(q.length:Int))/\
        rng (j1-1)/\
        next1 ((j1-1),u2,(bq q j1 (IntKind.wrap .u32 guess1))))
      (bT q λq1=>
      ig u1 n λr6=>
      bT r6 λr7=>
      Q q1 r7 none))))
def jB (a:List Int) (b:List Int) (Q:List Int->Prop):Prop:=
 bT a λa1=>
 bT b λb1=>
 bh (σ:=(List Int)×(List Int)) (a1,b1) λ⟨a2,b2⟩ next1=>
  ah (decide (0<(b2.length:Int)))
   (hH a2 b2 λ_ r1 _=>
   next1 (b2,r1))
   (Q a2)
def d9 (a:List Int) (b:List Int) (Q:List Int->Prop):Prop:=
 rng ((a.length:Int)+(b.length:Int))/\
 jn 4 ((a.length:Int)+(b.length:Int)) ((a.length:Int)+(b.length:Int))/\
 bh (σ:=Int×(List Int)) (0,(bu ((a.length:Int)+(b.length:Int)) 0)) λ⟨x,out⟩ next1=>
  ah (decide (x<(a.length:Int)))
   (((0:Int)<=x/\x<(a.length:Int))/\
   bh (σ:=Int×Int×(List Int)) (0,0,out) λ⟨carry,x1,out1⟩ next2=>
    ah (decide (x1<(b.length:Int)))
     (((0:Int)<=x1/\x1<(b.length:Int))/\
     rng (x+x1)/\
     ((0:Int)<=(x+x1)/\(x+x1)<(out1.length:Int))/\
     ko (IntKind.wrap .u64 (carry+(IntKind.wrap .u64 ((IntKind.wrap .u64 ((IntKind.wrap .u64 (at' a x))*(IntKind.wrap .u64 (at' b x1))))+(IntKind.wrap .u64 (at' out1 (x+x1))))))) λcarry1=>
     rng (x+x1)/\
     ((0:Int)<=(x+x1)/\(x+x1)<(out1.length:Int))/\
     rng (x1+1)/\
     next2 ((carry1 / 2^(Int.toNat 32)),(x1+1),(bq out1 (x+x1) (IntKind.wrap .u32 carry1))))
     (rng (x+(b.length:Int))/\
     ((0:Int)<=(x+(b.length:Int))/\(x+(b.length:Int))<(out1.length:Int))/\
     rng (x+1)/\
     next1 ((x+1),(bq out1 (x+(b.length:Int)) (IntKind.wrap .u32 carry)))))
   (bT out λr=>
   Q r)
def kX (a:List Int) (Q:Int->Prop):Prop:=
 rng ((a.length:Int)-1)/\
 bh (σ:=Int) ((a.length:Int)-1) λi next1=>
  ah (decide (0<=i))
   (((0:Int)<=i/\i<(a.length:Int))/\
   ah ((at' a i) != 0)
    (rng (32*i)/\
    ((0:Int)<=i/\i<(a.length:Int))/\
    fX (at' a i) λr=>
    rng ((32*i)+r)/\
    Q ((32*i)+r))
    (rng (i-1)/\
    next1 (i-1)))
   (Q 0)
def jC (a:List Int) (b:List Int) (Q:List Int->Prop):Prop:=
 rng ((max (a.length:Int) (b.length:Int))+1)/\
 jn 4 ((max (a.length:Int) (b.length:Int))+1) ((max (a.length:Int) (b.length:Int))+1)/\
 bh (σ:=Int×Int×(List Int)) (0,0,(bu ((max (a.length:Int) (b.length:Int))+1) 0)) λ⟨carry,x,out⟩ next1=>
  ah (decide (x<((Int.toNat ((max (a.length:Int) (b.length:Int))+1)):Int)))
   (cP a x λr=>
   cP b x λr1=>
   ko (IntKind.wrap .u64 (carry+(IntKind.wrap .u64 (r+r1)))) λcarry1=>
   ((0:Int)<=x/\x<(out.length:Int))/\
   rng (x+1)/\
   next1 ((carry1 / 2^(Int.toNat 32)),(x+1),(bq out x (IntKind.wrap .u32 carry1))))
   (bT out λr2=>
   Q r2)
def jA (a:List Int) (b:List Int) (Q:List Int->Option Int->Prop):Prop:=
 dq a b λr=>
 ah (decide (r<0))
  (Q [] (some 3))
  (jn 4 (a.length:Int) (a.length:Int)/\
  bh (σ:=Int×Int×(List Int)) (0,0,(bu (a.length:Int) 0)) λ⟨borrow,x,out⟩ next1=>
   ah (decide (x<((Int.toNat (a.length:Int)):Int)))
    (cP a x λr1=>
    cP b x λr2=>
    ko (IntKind.wrap .u64 ((IntKind.wrap .u64 (r1-r2))-borrow)) λd=>
    ((0:Int)<=x/\x<(out.length:Int))/\
    rng (x+1)/\
    next1 ((d / 2^(Int.toNat 63)),(x+1),(bq out x (IntKind.wrap .u32 d))))
    (bT out λr3=>
    Q r3 none))
def iQ (a:List Int) (Q:Int->Prop):Prop:=
 bh (σ:=Int×Int) (0,0) λ⟨n,x⟩ next1=>
  ah (decide (x<(a.length:Int)))
   (((0:Int)<=x/\x<(a.length:Int))/\
   bh (σ:=Int×Int) (n,0) λ⟨n1,x1⟩ next2=>
    ah (decide (x1<32))
     (((0:Int)<=x1/\x1<=32)/\
     ah ((bits .and .u32 ((at' a x) / 2^(Int.toNat x1)) 1) == 1)
      (rng (32*x)/\
      rng ((32*x)+x1)/\
      rng (((32*x)+x1)+1)/\
      rng (x1+1)/\
      next2 ((((32*x)+x1)+1),(x1+1)))
      (rng (x1+1)/\
      next2 (n1,(x1+1))))
     (rng (x+1)/\
     next1 (n1,(x+1))))
   (Q n)
def cQ (a:List Int) (Q:List Int->Prop):Prop:=
 dk (α:=Int) (λnext1=>
  bh (σ:=Int) (a.length:Int) λn1 next2=>
   ah (decide (0<n1))
    (rng (n1-1)/\
    ((0:Int)<=(n1-1)/\(n1-1)<(a.length:Int))/\
    ah ((at' a (n1-1)) == 0)
     (rng (n1-1)/\
     next2 (n1-1))
     (next1 n1))
    (next1 n1))
  λn=>
  ((0:Int)<=0/\0<=n/\n<=(a.length:Int))/\
  (([]++(cB a 0 n)).length*4<=140737488355328)/\
  Q ([]++(cB a 0 n))
def ca (a:List Int) (i:Int) (Q:Int->Prop):Prop:=
 ah (decide (i<(a.length:Int)))
  (((0:Int)<=i/\i<(a.length:Int))/\
  Q (IntKind.wrap .u64 (at' a i)))
  (Q 0)
def gi (a:List Int) (b:List Int) (Q:List Int->Prop):Prop:=
 rng ((a.length:Int)+(b.length:Int))/\
 rng (((a.length:Int)+(b.length:Int))+1)/\
 jn 4 (((a.length:Int)+(b.length:Int))+1) (((a.length:Int)+(b.length:Int))+1)/\
 bh (σ:=Int×(List Int)) (0,(bu (((a.length:Int)+(b.length:Int))+1) 0)) λ⟨x,out⟩ next1=>
  ah (decide (x<(a.length:Int)))
   (((0:Int)<=x/\x<(a.length:Int))/\
   rng ((b.length:Int)+1)/\
   bh (σ:=Int×Int×(List Int)) (0,0,out) λ⟨carry,x1,out1⟩ next2=>
    ah (decide (x1<((b.length:Int)+1)))
     (eJ (ca b x1) λr=>
     rng (x+x1)/\
     ((0:Int)<=(x+x1)/\(x+x1)<(out1.length:Int))/\
     rng (x+x1)/\
     ((0:Int)<=(x+x1)/\(x+x1)<(out1.length:Int))/\
     ko ((IntKind.wrap .u64 ((IntKind.wrap .u64 ((IntKind.wrap .u64 ((IntKind.wrap .u64 (at' a x))*r))+(IntKind.wrap .u64 (at' out1 (x+x1)))))+carry)) / 2^(Int.toNat 32)) λcarry1=>
     rng (x1+1)/\
     next2 (carry1,(x1+1),(bq out1 (x+x1) (IntKind.wrap .u32 (IntKind.wrap .u64 ((IntKind.wrap .u64 ((IntKind.wrap .u64 ((IntKind.wrap .u64 (at' a x))*r))+(IntKind.wrap .u64 (at' out1 (x+x1)))))+carry))))))
     (rng (x+1)/\
     next1 ((x+1),out1)))
   (cQ out λr1=>
   Q r1)
def iy (a:List Int) (b:List Int) (Q:Int->Prop):Prop:=
 rng ((max (a.length:Int) (b.length:Int))-1)/\
 ko ((max (a.length:Int) (b.length:Int))-1) λi=>
 bh (σ:=Int) i λi1 next1=>
  ah (decide (0<=i1))
   (ca a i1 λr=>
   ca b i1 λr1=>
   ah (decide (r<r1))
    (Q (-1))
    (ca a i1 λr2=>
    ca b i1 λr3=>
    ah (decide (r3<r2))
     (Q 1)
     (rng (i1-1)/\
     next1 (i1-1))))
   (Q 0)
def jJ (a:List Int) (b:List Int) (Q:List Int->Int->Prop):Prop:=
 iy a b λr=>
 ah (decide (r<0))
  (Q [] 3)
  (bh (σ:=Int×Int×(List Int)) (0,0,[]) λ⟨borrow,x,out⟩ next1=>
   ah (decide (x<(a.length:Int)))
    (ca a x λr1=>
    ca b x λr2=>
    ko (IntKind.wrap .u64 ((IntKind.wrap .u64 (r1-r2))-borrow)) λs=>
    ((out++[(IntKind.wrap .u32 s)]).length*4<=140737488355328)/\
    rng (x+1)/\
    next1 ((s / 2^(Int.toNat 63)),(x+1),(out++[(IntKind.wrap .u32 s)])))
    (cQ out λr3=>
    Q r3 0))
def m8 (a:List Int) (s:Int) (Q:List Int->Prop):Prop:=
 bh (σ:=Int×Int×(List Int)) (0,0,[]) λ⟨carry,x,out⟩ next1=>
  ah (decide (x<(a.length:Int)))
   (((0:Int)<=x/\x<(a.length:Int))/\
   ((0:Int)<=s/\s<=64)/\
   ko (bits .or .u64 carry (IntKind.wrap .u64 ((IntKind.wrap .u64 (at' a x))*2^(Int.toNat s)))) λcarry1=>
   ((out++[(IntKind.wrap .u32 carry1)]).length*4<=140737488355328)/\
   rng (x+1)/\
   next1 ((carry1 / 2^(Int.toNat 32)),(x+1),(out++[(IntKind.wrap .u32 carry1)])))
   (((out++[(IntKind.wrap .u32 carry)]).length*4<=140737488355328)/\
   cQ (out++[(IntKind.wrap .u32 carry)]) λr=>
   Q r)
def kr (a:List Int) (s:Int) (Q:List Int->Prop):Prop:=
 bh (σ:=Int×(List Int)) (0,[]) λ⟨x,out⟩ next1=>
  ah (decide (x<(a.length:Int)))
   (ca a x λr=>
   rng (x+1)/\
   ca a (x+1) λr1=>
   ((0:Int)<=s/\s<=64)/\
   ((out++[(IntKind.wrap .u32 ((bits .or .u64 r (IntKind.wrap .u64 (r1*2^(Int.toNat 32)))) / 2^(Int.toNat s)))]).length*4<=140737488355328)/\
   rng (x+1)/\
   next1 ((x+1),(out++[(IntKind.wrap .u32 ((bits .or .u64 r (IntKind.wrap .u64 (r1*2^(Int.toNat 32)))) / 2^(Int.toNat s)))])))
   (cQ out λr2=>
   Q r2)
def jK (a:List Int) (b:List Int) (Q:List Int->List Int->Int->Prop):Prop:=
 cQ b λb1=>
 ah ((b1.length:Int) == 0)
  (Q [] [] 8)
  (bh (σ:=Int) 0 λs next1=>
   rng ((b1.length:Int)-1)/\
   ((0:Int)<=((b1.length:Int)-1)/\((b1.length:Int)-1)<(b1.length:Int))/\
   ((0:Int)<=s/\s<=32)/\
   ah ((bits .and .u32 (IntKind.wrap .u32 ((at' b1 ((b1.length:Int)-1))*2^(Int.toNat s))) 2147483648) == 0)
    (rng (s+1)/\
    next1 (s+1))
    (m8 a s λa1=>
    m8 b1 s λb2=>
    jn 4 (a1.length:Int) (a1.length:Int)/\
    rng ((a1.length:Int)-(b1.length:Int))/\
    rng (((a1.length:Int)-(b1.length:Int))+1)/\
    ((0:Int)<=(max 0 (((a1.length:Int)-(b1.length:Int))+1))/\(max 0 (((a1.length:Int)-(b1.length:Int))+1))<=(a1.length:Int)/\(a1.length:Int)<=(a1.length:Int))/\
    (([]++(cB a1 (max 0 (((a1.length:Int)-(b1.length:Int))+1)) (a1.length:Int))).length*4<=140737488355328)/\
    rng ((a1.length:Int)-(b1.length:Int))/\
    bh (σ:=(List Int)×Int×(List Int)) (([]++(cB a1 (max 0 (((a1.length:Int)-(b1.length:Int))+1)) (a1.length:Int))),((a1.length:Int)-(b1.length:Int)),(bu (a1.length:Int) 0)) λ⟨r,i,q⟩ next2=>
     ah (decide (0<=i))
      (((0:Int)<=i/\i<(a1.length:Int))/\
      (([(at' a1 i)]++r).length*4<=140737488355328)/\
      cQ ([(at' a1 i)]++r) λr1=>
      ca r1 (b1.length:Int) λr2=>
      rng ((b1.length:Int)-1)/\
      ca r1 ((b1.length:Int)-1) λr3=>
      rng ((b1.length:Int)-1)/\
      ca b2 ((b1.length:Int)-1) λr4=>
      r4≠0/\
      ko (min (IntKind.wrap .u64 (Int.tdiv (bits .or .u64 (IntKind.wrap .u64 (r2*2^(Int.toNat 32))) r3) r4)) 4294967295) λguess=>
      gi b2 [(IntKind.wrap .u32 guess)] λp=>
      bh (σ:=Int×(List Int)) (guess,p) λ⟨guess1,p1⟩ next3=>
       iy p1 r1 λr5=>
       ah (decide (0<r5))
        (jJ p1 b2 λr6 _=>
        next3 ((IntKind.wrap .u64 (guess1-1)),r6))
        (jJ r1 p1 λr8 _=>
        ((0:Int)<=i/\i<(q.length:Int))/\
        rng (i-1)/\
        next2 (r8,(i-1),(bq q i (IntKind.wrap .u32 guess1)))))
      (cQ q λr10=>
      kr r s λr11=>
      Q r10 r11 0)))
def lM (a:List Int) (b:List Int) (Q:List Int->Prop):Prop:=
 cQ a λa1=>
 cQ b λb1=>
 bh (σ:=(List Int)×(List Int)) (a1,b1) λ⟨a2,b2⟩ next1=>
  ah (decide (0<(b2.length:Int)))
   (jK a2 b2 λ_ r1 _=>
   next1 (b2,r1))
   (Q a2)
def lN (a:List Int) (b:List Int) (Q:List Int->Prop):Prop:=
 rng ((max (a.length:Int) (b.length:Int))+1)/\
 bh (σ:=Int×Int×(List Int)) (0,0,[]) λ⟨carry,x,out⟩ next1=>
  ah (decide (x<((max (a.length:Int) (b.length:Int))+1)))
   (ca a x λr=>
   ca b x λr1=>
   ko (IntKind.wrap .u64 ((IntKind.wrap .u64 (r+r1))+carry)) λs=>
   ((out++[(IntKind.wrap .u32 s)]).length*4<=140737488355328)/\
   rng (x+1)/\
   next1 ((s / 2^(Int.toNat 32)),(x+1),(out++[(IntKind.wrap .u32 s)])))
   (cQ out λr2=>
   Q r2)
end Go.Gg
namespace Go.Gg
def kB (a:List Int) (b:List Int) (Q:Bool->Prop):Prop:=
 ah ((a.length:Int) != (b.length:Int))
  (Q false)
  (bh (σ:=Int) 0 λx next1=>
   ah (decide (x<(a.length:Int)))
    (((0:Int)<=x/\x<(a.length:Int))/\
    ((0:Int)<=x/\x<(b.length:Int))/\
    ah ((at' a x) != (at' b x))
     (Q false)
     (rng (x+1)/\
     next1 (x+1)))
    (Q true))
def nw (a:GRat) (b:GRat) (Q:Bool->Prop):Prop:=
 ah (a.Neg == b.Neg)
  (kB a.Num b.Num λr=>
  ah r
   (kB a.Den b.Den λr1=>
   Q r1)
   (Q false))
  (Q false)
def lU (a:List GRat) (b:List GRat) (Q:Bool->Prop):Prop:=
 ah ((a.length:Int) != (b.length:Int))
  (Q false)
  (bh (σ:=Int) 0 λx next1=>
   ah (decide (x<(a.length:Int)))
    (((0:Int)<=x/\x<(a.length:Int))/\
    ((0:Int)<=x/\x<(b.length:Int))/\
    eJ (nw (at' a x) (at' b x)) λr=>
    ah (!r)
     (Q false)
     (rng (x+1)/\
     next1 (x+1)))
    (Q true))
def iR (Q:List Int->Prop):Prop:=
 Q [1]
def gE (a:List Int) (Q:Bool->Prop):Prop:=
 ah (decide (0<(a.length:Int)))
  (rng ((a.length:Int)-1)/\
  ((0:Int)<=((a.length:Int)-1)/\((a.length:Int)-1)<(a.length:Int))/\
  Q ((at' a ((a.length:Int)-1)) != 0))
  (Q false)
def gF (a:GRat) (Q:Bool->Prop):Prop:=
 dk (α:=Bool) (λnext1=>
  ah ((a.Num.length:Int) == 0)
   (next1 ((a.Den.length:Int) == 0))
   (next1 false))
  λx=>
  ah x
   (Q (!a.Neg))
   (gE a.Num λr=>
   ah r
    (gE a.Den λr1=>
    ah r1
     (jB a.Num a.Den λr2=>
     iR λr3=>
     dq r2 r3 λr4=>
     Q (r4 == 0))
     (Q false))
    (Q false))
def dh (a:GRat) (Q:Bool->List Int->List Int->Prop):Prop:=
 dk (α:=Bool) (λnext1=>
  gF a λr1=>
  ah (!r1)
   (next1 true)
   (next1 ((a.Num.length:Int) == 0)))
  λx=>
  ah x
   (iR λr=>
   Q false [] r)
   (Q a.Neg a.Num a.Den)
def cR (neg:Bool) (num:List Int) (den:List Int) (Q:GRat->Prop):Prop:=
 kX num λr=>
 ah (r == 0)
  (Q (⟨false,[],[]⟩:GRat))
  (jB num den λg2=>
  hH num g2 λr1 _ _=>
  hH den g2 λr4 _ _=>
  Q (⟨neg,r1,r4⟩:GRat))
def dw (a:GRat) (b:GRat) (Q:GRat->Prop):Prop:=
 dh a λr r1 r2=>
 dh b λr3 r4 r5=>
 d9 r1 r5 λp=>
 d9 r4 r2 λq=>
 d9 r2 r5 λden=>
 ah (r == r3)
  (jC p q λr6=>
  cR r r6 den λr7=>
  Q r7)
  (dq p q λr8=>
  ah (decide (0<=r8))
   (jA p q λr9 _=>
   cR r r9 den λr11=>
   Q r11)
   (jA q p λr12 _=>
   cR r3 r12 den λr14=>
   Q r14))
def kS (a:GRat) (Q:GRat->Prop):Prop:=
 dh a λr r1 r2=>
 cR (!r) r1 r2 λr3=>
 Q r3
def ey (a:GRat) (b:GRat) (Q:GRat->Prop):Prop:=
 eJ (kS b) λr=>
 eJ (dw a r) λr1=>
 Q r1
def jV (n:Int) (Q:List Int->Prop):Prop:=
 ah (n == (-9223372036854775808))
  (Q [0,2147483648])
  (rng (-n)/\
  kw (max n (-n)) λr=>
  Q r)
def d8 (n:Int) (Q:GRat->Prop):Prop:=
 jV n λr=>
 iR λr1=>
 cR (decide (n<0)) r r1 λr2=>
 Q r2
def dv (a:GRat) (b:GRat) (Q:GRat->Prop):Prop:=
 dh a λr r1 r2=>
 dh b λr3 r4 r5=>
 d9 r1 r4 λr6=>
 d9 r2 r5 λr7=>
 cR (r != r3) r6 r7 λr8=>
 Q r8
def ia (a:GRat) (Q:Bool->Prop):Prop:=
 gF a λr=>
 ah r
  (ah (!a.Neg)
   (dq a.Num a.Den λr1=>
   Q (decide (r1<=0)))
   (Q false))
  (Q false)
def fx (neg:Bool) (num:List Int) (den:List Int) (Q:GRat->Int->Prop):Prop:=
 iQ den λr=>
 ah (r == 0)
  (Q (⟨false,[],[]⟩:GRat) 8)
  (iQ num λr1=>
  ah (r1 == 0)
   (Q (⟨false,[],[]⟩:GRat) 0)
   (lM num den λg2=>
   jK num g2 λr2 _ _=>
   jK den g2 λr5 _ _=>
   Q (⟨neg,r2,r5⟩:GRat) 0))
def kp (n:Int) (Q:List Int->Prop):Prop:=
 dk (α:=Int) (λnext1=>
  ah (decide (n<0))
   (ko (IntKind.wrap .u64 (0-(IntKind.wrap .u64 n))) λu1=>
   next1 u1)
   (next1 (IntKind.wrap .u64 n)))
  λu=>
  Q [(IntKind.wrap .u32 u),(IntKind.wrap .u32 (u / 2^(Int.toNat 32)))]
def kq (n:Int) (d:Int) (Q:GRat->Int->Prop):Prop:=
 kp n λr=>
 kp d λr1=>
 fx ((decide (n<0)) != (decide (d<0))) r r1 λr2 r3=>
 Q r2 r3
def m7 (n:Int) (Q:GRat->Prop):Prop:=
 kq n 1 λr _=>
 Q r
def gY (a:GRat) (Q:Bool->Prop):Prop:=
 dk (α:=Bool) (λnext1=>
  ah ((a.Num.length:Int) == 0)
   (next1 true)
   (next1 ((a.Den.length:Int) == 0)))
  λx=>
  ah x
   (ah ((a.Num.length:Int) == 0)
    (ah ((a.Den.length:Int) == 0)
     (Q (!a.Neg))
     (Q false))
    (Q false))
   (rng ((a.Num.length:Int)-1)/\
   ((0:Int)<=((a.Num.length:Int)-1)/\((a.Num.length:Int)-1)<(a.Num.length:Int))/\
   ah ((at' a.Num ((a.Num.length:Int)-1)) != 0)
    (rng ((a.Den.length:Int)-1)/\
    ((0:Int)<=((a.Den.length:Int)-1)/\((a.Den.length:Int)-1)<(a.Den.length:Int))/\
    ah ((at' a.Den ((a.Den.length:Int)-1)) != 0)
     (lM a.Num a.Den λr=>
     iQ r λr1=>
     Q (r1 == 1))
     (Q false))
    (Q false))
def fM (a:GRat) (Q:Bool->List Int->List Int->Prop):Prop:=
 dk (α:=Bool) (λnext1=>
  gY a λr=>
  ah (!r)
   (next1 true)
   (next1 ((a.Num.length:Int) == 0)))
  λx=>
  ah x
   (Q false [] [1])
   (Q a.Neg a.Num a.Den)
def fw (a:GRat) (Q:Int->Prop):Prop:=
 fM a λr r1 _=>
 ah ((r1.length:Int) == 0)
  (Q 0)
  (ah r
   (Q (-1))
   (Q 1))
def nW (a:GRat) (b:GRat) (Q:GRat->Prop):Prop:=
 fM a λr r1 r2=>
 fM b λr3 r4 r5=>
 gi r1 r5 λx=>
 gi r4 r2 λy1=>
 gi r2 r5 λden=>
 ah (r == r3)
  (lN x y1 λr6=>
  fx r r6 den λr7 _=>
  Q r7)
  (dk (α:=Bool×(List Int)×(List Int)) (λnext1=>
   iy x y1 λr13=>
   ah (decide (r13<0))
    (next1 (r3,y1,x))
    (next1 (r,x,y1)))
   λ⟨s,x1,y2⟩=>
   jJ x1 y2 λr9 _=>
   fx s r9 den λr11 _=>
   Q r11)
def nU (a:GRat) (Q:GRat->Prop):Prop:=
 fM a λr r1 r2=>
 fx (!r) r1 r2 λr3 _=>
 Q r3
def nT (a:GRat) (b:GRat) (Q:GRat->Prop):Prop:=
 eJ (nU b) λr=>
 eJ (nW a r) λr1=>
 Q r1
def iw (a:GRat) (b:GRat) (Q:Int->Prop):Prop:=
 nT a b λr=>
 fw r λr1=>
 Q r1
def m4 (a:GRat) (Q:Bool->Prop):Prop:=
 eJ (gY a) λr=>
 ah r
  (eJ (fw a) λr1=>
  ah (decide (0<=r1))
   (eJ (m7 1) λr2=>
   eJ (iw a r2) λr3=>
   Q (decide (r3<=0)))
   (Q false))
  (Q false)
end Go.Gg
namespace Go.Gg
def gR (kind:Int) (n:Int) (Q:Bool->Prop):Prop:=
 ah (kind == 0)
  (Q (n == 0))
  (ah (kind == 1)
   (Q (n == 1))
   (ah (decide (1<=n))
    (Q (decide (n<=16)))
    (Q false)))
def gQ (f:GFormula) (i:Int) (Q:Option Int->Prop):Prop:=
 ((0:Int)<=i/\i<(f.Nodes.length:Int))/\
 dk (α:=Bool) (λnext5=>
  ah (decide ((at' f.Nodes i).Kind<0))
   (next5 true)
   (next5 (decide (5<(at' f.Nodes i).Kind))))
  λx=>
  ah x
   (Q (some 7))
   (gR ((at' f.Nodes i).Kind) (((at' f.Nodes i).Args).length:Int) λr=>
   ah (!r)
    (Q (some 11))
    (bh (σ:=Int) 0 λx1 next1=>
     ah (decide (x1<(((at' f.Nodes i).Args).length:Int)))
      (((0:Int)<=x1/\x1<(((at' f.Nodes i).Args).length:Int))/\
      dk (α:=Bool) (λnext2=>
       ah (decide ((at' ((at' f.Nodes i).Args) x1)<0))
        (next2 true)
        (rng (f.Vars+i)/\
        next2 (decide ((f.Vars+i)<=(at' ((at' f.Nodes i).Args) x1)))))
       λx2=>
       ah x2
        (Q (some 10))
        (rng (x1+1)/\
        next1 (x1+1)))
      (ah ((at' f.Nodes i).Kind == 0)
       (dk (α:=Bool) (λnext3=>
        ah ((at' f.Nodes i).K != 0)
         (next3 ((at' f.Nodes i).K != 1))
         (next3 false))
        λx3=>
        ah x3
         (Q (some 3))
         (Q none))
       (ah ((at' f.Nodes i).Kind == 4)
        (dk (α:=Bool) (λnext4=>
         ah (decide ((at' f.Nodes i).K<1))
          (next4 true)
          (next4 (decide ((((at' f.Nodes i).Args).length:Int)<(at' f.Nodes i).K))))
         λx4=>
         ah x4
          (Q (some 3))
          (Q none))
        (ah ((at' f.Nodes i).K != 0)
         (Q (some 2))
         (Q none))))))
def j5 (f:GFormula) (arg:Int) (Q:Bool->Prop):Prop:=
 ah (decide (0<=f.Vars))
  (ah (decide (0<=arg))
   (ah (decide (arg<f.Vars))
    (Q true)
    (rng (arg-f.Vars)/\
    Q (decide ((arg-f.Vars)<(f.Nodes.length:Int)))))
   (Q false))
  (Q false)
def da (f:GFormula) (Q:Option Int->Prop):Prop:=
 dk (α:=Bool) (λnext2=>
  ah (decide (f.Vars<0))
   (next2 true)
   (next2 (decide (24<f.Vars))))
  λx=>
  ah x
   (Q (some 3))
   (ah (decide (128<(f.Nodes.length:Int)))
    (Q (some 4))
    (bh (σ:=Int) 0 λx1 next1=>
     ah (decide (x1<(f.Nodes.length:Int)))
      (gQ f x1 λe=>
      ah (Option.isSome e)
       (Q e)
       (rng (x1+1)/\
       next1 (x1+1)))
      (j5 f f.Top λr=>
      ah (!r)
       (Q (some 10))
       (Q none))))
def mZ (f:GFormula) (i:Int) (Q:Int->Prop):Prop:=
 ((0:Int)<=i/\i<(f.Nodes.length:Int))/\
 dk (α:=Int×Int) (λnext2=>
  ah ((at' f.Nodes i).Kind == 0)
   (next2 (0,0))
   (ah ((at' f.Nodes i).Kind == 1)
    (next2 (1,1))
    (ah ((at' f.Nodes i).Kind == 2)
     (next2 (1,16))
     (ah ((at' f.Nodes i).Kind == 3)
      (next2 (1,16))
      (ah ((at' f.Nodes i).Kind == 4)
       (next2 (1,16))
       (ah ((at' f.Nodes i).Kind == 5)
        (next2 (1,16))
        (Q 7)))))))
  λ⟨least,most⟩=>
  ah (decide ((((at' f.Nodes i).Args).length:Int)<least))
   (Q 11)
   (ah (decide (most<(((at' f.Nodes i).Args).length:Int)))
    (Q 11)
    (bh (σ:=Int) 0 λx next1=>
     ah (decide (x<(((at' f.Nodes i).Args).length:Int)))
      (((0:Int)<=x/\x<(((at' f.Nodes i).Args).length:Int))/\
      ah (decide ((at' ((at' f.Nodes i).Args) x)<0))
       (Q 10)
       (rng (f.Vars+i)/\
       ah (decide ((f.Vars+i)<=(at' ((at' f.Nodes i).Args) x)))
        (Q 10)
        (rng (x+1)/\
        next1 (x+1))))
      (ah ((at' f.Nodes i).Kind == 0)
       (ah ((at' f.Nodes i).K != 0)
        (ah ((at' f.Nodes i).K != 1)
         (Q 3)
         (Q 0))
        (Q 0))
       (ah ((at' f.Nodes i).Kind == 4)
        (ah (decide ((at' f.Nodes i).K<1))
         (Q 3)
         (ah (decide ((((at' f.Nodes i).Args).length:Int)<(at' f.Nodes i).K))
          (Q 3)
          (Q 0)))
        (ah ((at' f.Nodes i).K != 0)
         (Q 2)
         (Q 0))))))
def l9 (f:GFormula) (arg:Int) (Q:Bool->Prop):Prop:=
 ah (decide (0<=f.Vars))
  (ah (decide (0<=arg))
   (ah (decide (arg<f.Vars))
    (Q true)
    (rng (arg-f.Vars)/\
    Q (decide ((arg-f.Vars)<(f.Nodes.length:Int)))))
   (Q false))
  (Q false)
def l_ (f:GFormula) (Q:Int->Prop):Prop:=
 ah (decide (f.Vars<0))
  (Q 3)
  (ah (decide (24<f.Vars))
   (Q 3)
   (ah (decide (128<(f.Nodes.length:Int)))
    (Q 4)
    (bh (σ:=Int) 0 λx next1=>
     ah (decide (x<(f.Nodes.length:Int)))
      (mZ f x λe=>
      ah (e != 0)
       (Q e)
       (rng (x+1)/\
       next1 (x+1)))
      (l9 f f.Top λr=>
      ah (!r)
       (Q 10)
       (Q 0)))))
def j3 (f:GFormula) (failed:Int) (Q:Option Int->Prop):Prop:=
 da f λe=>
 ah (Option.isSome e)
  (Q e)
  (dk (α:=Bool) (λnext1=>
   ah (decide (failed<0))
    (next1 true)
    ((((0:Int)<=f.Vars/\f.Vars<=64)/\rng (1*2^(Int.toNat f.Vars)))/\
    next1 (decide ((1*2^(Int.toNat f.Vars))<=failed))))
   λx=>
   ah x
    (Q (some 3))
    (Q none))
def jp (f:GFormula) (failed:Int) (Q:List Bool->Prop):Prop:=
 rng (f.Vars+(f.Nodes.length:Int))/\
 jn 1 f.Vars (f.Vars+(f.Nodes.length:Int))/\
 bh (σ:=Int×(List Bool)) (0,(bu f.Vars false)) λ⟨x,v⟩ next1=>
  ah (decide (x<((Int.toNat f.Vars):Int)))
   (((0:Int)<=x/\x<=64)/\
   ((0:Int)<=x/\x<(v.length:Int))/\
   rng (x+1)/\
   next1 ((x+1),(bq v x ((bits .and .i64 (failed / 2^(Int.toNat x)) 1) == 1))))
   (bh (σ:=Int×(List Bool)) (0,v) λ⟨x1,v1⟩ next2=>
    ah (decide (x1<(f.Nodes.length:Int)))
     (((0:Int)<=x1/\x1<(f.Nodes.length:Int))/\
     bh (σ:=Int×Int) (0,0) λ⟨n,x2⟩ next3=>
      ah (decide (x2<(((at' f.Nodes x1).Args).length:Int)))
       (((0:Int)<=x2/\x2<(((at' f.Nodes x1).Args).length:Int))/\
       ((0:Int)<=(at' ((at' f.Nodes x1).Args) x2)/\(at' ((at' f.Nodes x1).Args) x2)<(v1.length:Int))/\
       ah (at' v1 (at' ((at' f.Nodes x1).Args) x2))
        (rng (n+1)/\
        rng (x2+1)/\
        next3 ((n+1),(x2+1)))
        (rng (x2+1)/\
        next3 (n,(x2+1))))
       (dk (α:=Bool) (λnext4=>
        ah ((at' f.Nodes x1).Kind == 0)
         (next4 ((at' f.Nodes x1).K == 1))
         (ah ((at' f.Nodes x1).Kind == 1)
          (next4 (n == 0))
          (ah ((at' f.Nodes x1).Kind == 2)
           (next4 (n == (((at' f.Nodes x1).Args).length:Int)))
           (ah ((at' f.Nodes x1).Kind == 3)
            (next4 (decide (0<n)))
            (ah ((at' f.Nodes x1).Kind == 4)
             (next4 (decide ((at' f.Nodes x1).K<=n)))
             (ah ((at' f.Nodes x1).Kind == 5)
              (next4 ((Int.tmod n 2) == 1))
              (next4 false)))))))
        λis=>
        ((v1++[is]).length*1<=140737488355328)/\
        rng (x1+1)/\
        next2 ((x1+1),(v1++[is]))))
     (Q v1))
def j4 (f:GFormula) (failed:Int) (Q:Bool->Option Int->Prop):Prop:=
 j3 f failed λe=>
 ah (Option.isSome e)
  (Q false e)
  (eJ (jp f failed) λr=>
  ((0:Int)<=f.Top/\f.Top<(r.length:Int))/\
  Q (at' r f.Top) none)
def ij (f:GFormula) (Q:List Bool->Prop):Prop:=
 rng (f.Vars+(f.Nodes.length:Int))/\
 jn 1 (f.Vars+(f.Nodes.length:Int)) (f.Vars+(f.Nodes.length:Int))/\
 ((0:Int)<=f.Top/\f.Top<((Int.toNat (f.Vars+(f.Nodes.length:Int))):Int))/\
 rng ((f.Nodes.length:Int)-1)/\
 bh (σ:=Int×(List Bool)) (((f.Nodes.length:Int)-1),(bq (bu (f.Vars+(f.Nodes.length:Int)) false) f.Top true)) λ⟨i,mark⟩ next1=>
  ah (decide (0<=i))
   (rng (f.Vars+i)/\
   ((0:Int)<=(f.Vars+i)/\(f.Vars+i)<(mark.length:Int))/\
   ah (at' mark (f.Vars+i))
    (((0:Int)<=i/\i<(f.Nodes.length:Int))/\
    bh (σ:=Int×(List Bool)) (0,mark) λ⟨x,mark1⟩ next2=>
     ah (decide (x<(((at' f.Nodes i).Args).length:Int)))
      (((0:Int)<=x/\x<(((at' f.Nodes i).Args).length:Int))/\
      ((0:Int)<=(at' ((at' f.Nodes i).Args) x)/\(at' ((at' f.Nodes i).Args) x)<(mark1.length:Int))/\
      rng (x+1)/\
      next2 ((x+1),(bq mark1 (at' ((at' f.Nodes i).Args) x) true)))
      (rng (i-1)/\
      next1 ((i-1),mark1)))
    (rng (i-1)/\
    next1 ((i-1),mark)))
   (Q mark)
def k_ (f:GFormula) (Q:GFormula->Option Int->Prop):Prop:=
 da f λe=>
 ah (Option.isSome e)
  (Q (⟨0,[],0⟩:GFormula) e)
  (rng (f.Vars+(f.Nodes.length:Int))/\
  jn 8 (f.Vars+(f.Nodes.length:Int)) (f.Vars+(f.Nodes.length:Int))/\
  bh (σ:=Int×(List Int)) (0,(bu (f.Vars+(f.Nodes.length:Int)) 0)) λ⟨x,to⟩ next1=>
   ah (decide (x<f.Vars))
    (((0:Int)<=x/\x<(to.length:Int))/\
    rng (x+1)/\
    next1 ((x+1),(bq to x x)))
    (eJ (ij f) λr=>
    ((0:Int)<=f.Vars/\f.Vars<=(r.length:Int)/\(r.length:Int)<=(r.length:Int))/\
    bh (σ:=Int×(List Int)×(List GNode)) (0,to,[]) λ⟨x1,to1,x2⟩ next2=>
     ah (decide (x1<((cB r f.Vars (r.length:Int)).length:Int)))
      (((0:Int)<=x1/\x1<((cB r f.Vars (r.length:Int)).length:Int))/\
      ah (!(at' (cB r f.Vars (r.length:Int)) x1))
       (rng (x1+1)/\
       next2 ((x1+1),to1,x2))
       (((0:Int)<=x1/\x1<(f.Nodes.length:Int))/\
       bh (σ:=Int×(List Int)) (0,[]) λ⟨x3,x4⟩ next3=>
        ah (decide (x3<(((at' f.Nodes x1).Args).length:Int)))
         (((0:Int)<=x3/\x3<(((at' f.Nodes x1).Args).length:Int))/\
         ((0:Int)<=(at' ((at' f.Nodes x1).Args) x3)/\(at' ((at' f.Nodes x1).Args) x3)<(to1.length:Int))/\
         ((x4++[(at' to1 (at' ((at' f.Nodes x1).Args) x3))]).length*8<=140737488355328)/\
         rng (x3+1)/\
         next3 ((x3+1),(x4++[(at' to1 (at' ((at' f.Nodes x1).Args) x3))])))
         (rng (f.Vars+x1)/\
         rng (f.Vars+(x2.length:Int))/\
         ((0:Int)<=(f.Vars+x1)/\(f.Vars+x1)<(to1.length:Int))/\
         ((x2++[(⟨(at' f.Nodes x1).Kind,(at' f.Nodes x1).K,x4⟩:GNode)]).length*40<=140737488355328)/\
         rng (x1+1)/\
         next2 ((x1+1),(bq to1 (f.Vars+x1) (f.Vars+(x2.length:Int))),(x2++[(⟨(at' f.Nodes x1).Kind,(at' f.Nodes x1).K,x4⟩:GNode)])))))
      (((0:Int)<=f.Top/\f.Top<(to1.length:Int))/\
      Q (⟨f.Vars,x2,(at' to1 f.Top)⟩:GFormula) none)))
def lh (f:GFormula) (Q:Int->Int->Option Int->Prop):Prop:=
 da f λe=>
 ah (Option.isSome e)
  (Q 0 0 e)
  (eJ (ij f) λr=>
  ((0:Int)<=f.Vars/\f.Vars<=(r.length:Int)/\(r.length:Int)<=(r.length:Int))/\
  bh (σ:=Int×Int×Int) (0,0,0) λ⟨nodes,args,x⟩ next1=>
   ah (decide (x<((cB r f.Vars (r.length:Int)).length:Int)))
    (((0:Int)<=x/\x<((cB r f.Vars (r.length:Int)).length:Int))/\
    ah (at' (cB r f.Vars (r.length:Int)) x)
     (rng (nodes+1)/\
     ((0:Int)<=x/\x<(f.Nodes.length:Int))/\
     rng (args+(((at' f.Nodes x).Args).length:Int))/\
     ko (args+(((at' f.Nodes x).Args).length:Int)) λargs1=>
     rng (x+1)/\
     next1 ((nodes+1),args1,(x+1)))
     (rng (x+1)/\
     next1 (nodes,args,(x+1))))
    (Q nodes args none))
def ma (f:GFormula) (Q:List Bool->Prop):Prop:=
 rng (f.Vars+(f.Nodes.length:Int))/\
 jn 1 (f.Vars+(f.Nodes.length:Int)) (f.Vars+(f.Nodes.length:Int))/\
 ((0:Int)<=f.Top/\f.Top<((Int.toNat (f.Vars+(f.Nodes.length:Int))):Int))/\
 rng ((f.Nodes.length:Int)-1)/\
 bh (σ:=Int×(List Bool)) (((f.Nodes.length:Int)-1),(bq (bu (f.Vars+(f.Nodes.length:Int)) false) f.Top true)) λ⟨i,mark⟩ next1=>
  ah (decide (0<=i))
   (rng (f.Vars+i)/\
   ((0:Int)<=(f.Vars+i)/\(f.Vars+i)<(mark.length:Int))/\
   ah (!(at' mark (f.Vars+i)))
    (rng (i-1)/\
    next1 ((i-1),mark))
    (((0:Int)<=i/\i<(f.Nodes.length:Int))/\
    bh (σ:=Int×(List Bool)) (0,mark) λ⟨x,mark1⟩ next2=>
     ah (decide (x<(((at' f.Nodes i).Args).length:Int)))
      (((0:Int)<=x/\x<(((at' f.Nodes i).Args).length:Int))/\
      ((0:Int)<=(at' ((at' f.Nodes i).Args) x)/\(at' ((at' f.Nodes i).Args) x)<(mark1.length:Int))/\
      rng (x+1)/\
      next2 ((x+1),(bq mark1 (at' ((at' f.Nodes i).Args) x) true)))
      (rng (i-1)/\
      next1 ((i-1),mark1))))
   (Q mark)
end Go.Gg
namespace Go.Gg
def cy:Nat->Int->Int->(List GNode)->Int->(List Int)->(List Bool)->(List Int->List Bool->Prop)->Prop
 | 0,_,_,_,_,_,_,_=>False
 | fu+1,arg,Formula,w,w1,events,seen,Q=>
  ((0:Int)<=arg/\arg<(seen.length:Int))/\
  ah (at' seen arg)
   (Q events seen)
   (((0:Int)<=arg/\arg<(seen.length:Int))/\
   ah (decide (arg<Formula))
    (((events++[arg]).length*8<=140737488355328)/\
    Q (events++[arg]) (bq seen arg true))
    (rng (arg-Formula)/\
    ((0:Int)<=(arg-Formula)/\(arg-Formula)<(w.length:Int))/\
    bh (σ:=Int×(List Int)×(List Bool)) (0,events,(bq seen arg true)) λ⟨x,x1,x2⟩ next1=>
     ah (decide (x<(((at' w (arg-Formula)).Args).length:Int)))
      (((0:Int)<=x/\x<(((at' w (arg-Formula)).Args).length:Int))/\
      cy fu (at' ((at' w (arg-Formula)).Args) x) Formula w w1 x1 x2 λu u1=>
      u1.length=x2.length/\
      rng (x+1)/\
      next1 ((x+1),u,u1))
      (Q x1 x2)))
def mf (f:GFormula) (Q:List Int->List Bool->Prop):Prop:=
 rng (f.Vars+(f.Nodes.length:Int))/\
 jn 1 (f.Vars+(f.Nodes.length:Int)) (f.Vars+(f.Nodes.length:Int))/\
 ∃fu,cy fu f.Top f.Vars f.Nodes f.Top ([]:List Int) (bu (f.Vars+(f.Nodes.length:Int)) false) λu u1=>
 u1.length=(bu (f.Vars+(f.Nodes.length:Int)) false).length/\
 bh (σ:=Int×(List Int)) (0,u) λ⟨x,x1⟩ next1=>
  ah (decide (x<f.Vars))
   (((0:Int)<=x/\x<(u1.length:Int))/\
   ah (!(at' u1 x))
    (((x1++[x]).length*8<=140737488355328)/\
    rng (x+1)/\
    next1 ((x+1),(x1++[x])))
    (rng (x+1)/\
    next1 ((x+1),x1)))
   (Q x1 u1)
def mg (f:GFormula) (Q:List Int->Option Int->Prop):Prop:=
 da f λerr=>
 ah (Option.isSome err)
  (Q [] err)
  (mf f λr _=>
  Q r none)
def mh (o:List Int) (vars:Int) (Q:Option Int->Prop):Prop:=
 dk (α:=Bool) (λnext3=>
  ah (decide (vars<0))
   (next3 true)
   (next3 (decide (24<vars))))
  λx=>
  ah x
   (Q (some 3))
   (ah ((o.length:Int) != vars)
    (Q (some 11))
    (jn 1 vars vars/\
    bh (σ:=Int×(List Bool)) (0,(bu vars false)) λ⟨x1,seen⟩ next1=>
     ah (decide (x1<(o.length:Int)))
      (((0:Int)<=x1/\x1<(o.length:Int))/\
      dk (α:=Bool) (λnext2=>
       ah (decide ((at' o x1)<0))
        (next2 true)
        (next2 (decide (vars<=(at' o x1)))))
       λx2=>
       ah x2
        (Q (some 3))
        (((0:Int)<=(at' o x1)/\(at' o x1)<(seen.length:Int))/\
        ah (at' seen (at' o x1))
         (Q (some 6))
         (((0:Int)<=(at' o x1)/\(at' o x1)<(seen.length:Int))/\
         rng (x1+1)/\
         next1 ((x1+1),(bq seen (at' o x1) true)))))
      (Q none)))
end Go.Gg
namespace Go.Gg
def i4 (order:List Int) (Q:List Int->List Int->GMap Int->GMap Int->Prop):Prop:=
 (order.length*8<=140737488355328)/\
 jn 8 (order.length:Int) (order.length:Int)/\
 bh (σ:=Int×(List Int)) (0,(bu (order.length:Int) 0)) λ⟨x,x1⟩ next1=>
  ah (decide (x<(order.length:Int)))
   (((0:Int)<=x/\x<(order.length:Int))/\
   ((0:Int)<=(at' order x)/\(at' order x)<(x1.length:Int))/\
   rng (x+1)/\
   next1 ((x+1),(bq x1 (at' order x) x)))
   (Q order x1 (iF:GMap Int) (iF:GMap Int))
def cC (v:Int) (lo:Int) (hi:Int) (_order:List Int) (_place:List Int) (nodes:List GDNode) (unique:GMap Int) (_memo:GMap Int) (Q:List GDNode->GMap Int->Int->Prop):Prop:=
 ah (lo == hi)
  (Q nodes unique lo)
  (ah (!(Option.isSome (cD unique [v,lo,hi])))
   (rng (2+(nodes.length:Int))/\
   ((nodes++[(⟨v,lo,hi⟩:GDNode)]).length*24<=140737488355328)/\
   Q (nodes++[(⟨v,lo,hi⟩:GDNode)]) (mput unique [v,lo,hi] (2+(nodes.length:Int))) (2+(nodes.length:Int)))
   (Q nodes unique (Option.getD (cD unique [v,lo,hi]) 0)))
def cV (i:Int) (order:List Int) (place:List Int) (nodes:List GDNode) (unique:GMap Int) (memo:GMap Int) (Q:List GDNode->GMap Int->Int->Prop):Prop:=
 cC i 0 1 order place nodes unique memo λu u1 r=>
 Q u u1 r
def br (r:Int) (order:List Int) (place:List Int) (nodes:List GDNode) (_unique:GMap Int) (_memo:GMap Int) (Q:Int->Prop):Prop:=
 ah (decide (r<2))
  (Q (order.length:Int))
  (rng (r-2)/\
  ((0:Int)<=(r-2)/\(r-2)<(nodes.length:Int))/\
  ((0:Int)<=(at' nodes (r-2)).Var/\(at' nodes (r-2)).Var<(place.length:Int))/\
  Q (at' place ((at' nodes (r-2)).Var)))
def bH (r:Int) (level:Int) (order:List Int) (place:List Int) (nodes:List GDNode) (unique:GMap Int) (memo:GMap Int) (Q:Int->Int->Prop):Prop:=
 br r order place nodes unique memo λr1=>
 ah (r1 != level)
  (Q r r)
  (rng (r-2)/\
  ((0:Int)<=(r-2)/\(r-2)<(nodes.length:Int))/\
  Q ((at' nodes (r-2)).Lo) ((at' nodes (r-2)).Hi))
def aC:Nat->Int->Int->Int->(List Int)->(List Int)->(List GDNode)->(GMap Int)->(GMap Int)->(List GDNode->GMap Int->GMap Int->Int->Prop)->Prop
 | 0,_,_,_,_,_,_,_,_,_=>False
 | fu+1,c,a,b,order,place,nodes,unique,memo,Q=>
  dk (α:=Unit) (λnext1=>
   dk (α:=Bool) (λnext2=>
    ah (c == 1)
     (next2 true)
     (next2 (a == b)))
    λx=>
    ah x
     (Q nodes unique memo a)
     (ah (c == 0)
      (Q nodes unique memo b)
      (ah (a == 1)
       (ah (b == 0)
        (Q nodes unique memo c)
        (next1 ()))
       (next1 ()))))
   λ_=>
   ah (Option.isSome (cD memo [c,a,b]))
    (Q nodes unique memo (Option.getD (cD memo [c,a,b]) 0))
    (br c order place nodes unique memo λr=>
    br a order place nodes unique memo λr1=>
    br b order place nodes unique memo λr2=>
    bH c (min (min r r1) r2) order place nodes unique memo λr3 r4=>
    bH a (min (min r r1) r2) order place nodes unique memo λr5 r6=>
    bH b (min (min r r1) r2) order place nodes unique memo λr7 r8=>
    aC fu r3 r5 r7 order place nodes unique memo λu u1 u2 lo=>
    aC fu r4 r6 r8 order place u u1 u2 λu3 u4 u5 hi=>
    ((0:Int)<=(min (min r r1) r2)/\(min (min r r1) r2)<(order.length:Int))/\
    cC (at' order (min (min r r1) r2)) lo hi order place u3 u4 u5 λu6 u7 r9=>
    Q u6 u7 (mput u5 [c,a,b] r9) r9)
def dt (a:Int) (order:List Int) (place:List Int) (nodes:List GDNode) (unique:GMap Int) (memo:GMap Int) (Q:List GDNode->GMap Int->GMap Int->Int->Prop):Prop:=
 ∃fu,aC fu a 0 1 order place nodes unique memo λu u1 u2 r=>
 Q u u1 u2 r
def du (a:Int) (b:Int) (order:List Int) (place:List Int) (nodes:List GDNode) (unique:GMap Int) (memo:GMap Int) (Q:List GDNode->GMap Int->GMap Int->Int->Prop):Prop:=
 ∃fu,aC fu a b 0 order place nodes unique memo λu u1 u2 r=>
 Q u u1 u2 r
def dR (a:Int) (b:Int) (order:List Int) (place:List Int) (nodes:List GDNode) (unique:GMap Int) (memo:GMap Int) (Q:List GDNode->GMap Int->GMap Int->Int->Prop):Prop:=
 ∃fu,aC fu a 1 b order place nodes unique memo λu u1 u2 r=>
 Q u u1 u2 r
def dr (a:Int) (b:Int) (order:List Int) (place:List Int) (nodes:List GDNode) (unique:GMap Int) (memo:GMap Int) (Q:List GDNode->GMap Int->GMap Int->Int->Prop):Prop:=
 dt b order place nodes unique memo λu u1 u2 r=>
 ∃fu,aC fu a r b order place u u1 u2 λu3 u4 u5 r1=>
 Q u3 u4 u5 r1
def aN:Nat->Int->Int->(GMap Bool)->(List Int)->(List Int)->(List GDNode)->(GMap Int)->(GMap Int)->(GMap Bool->Prop)->Prop
 | 0,_,_,_,_,_,_,_,_,_=>False
 | fu+1,r,u,u1,order,place,nodes,unique,memo,Q=>
  ah (decide (r<2))
   (Q u1)
   (ah (Option.getD (cD u1 [r]) false)
    (Q u1)
    (ah (decide (u<((GMap.n u1:Nat):Int)))
     (Q u1)
     (rng (r-2)/\
     ((0:Int)<=(r-2)/\(r-2)<(nodes.length:Int))/\
     ∃u2,(aN fu ((at' nodes (r-2)).Lo) u (mput u1 [r] true) order place nodes unique memo λy1=>y1=u2)/\
     rng (r-2)/\
     ((0:Int)<=(r-2)/\(r-2)<(nodes.length:Int))/\
     ∃u3,(aN fu ((at' nodes (r-2)).Hi) u u2 order place nodes unique memo λy2=>y2=u3)/\
     Q u3)))
def cc (root:Int) (most:Int) (order:List Int) (place:List Int) (nodes:List GDNode) (unique:GMap Int) (memo:GMap Int) (Q:Bool->Prop):Prop:=
 ∃fu,aN fu root most (iF:GMap Bool) order place nodes unique memo λu=>
 Q (decide (((GMap.n u:Nat):Int)<=most))
def bm:Nat->Int->Int->(GMap Int)->(List Int)->(List GDNode)->(List Int)->(List Int)->(List GDNode)->(GMap Int)->(GMap Int)->(GMap Int->List GDNode->Int->Prop)->Prop
 | 0,_,_,_,_,_,_,_,_,_,_,_=>False
 | fu+1,r,Root,u,Order,Nodes,order,place,nodes,unique,memo,Q=>
  ah (Option.isSome (cD u [r]))
   (Q u Nodes (Option.getD (cD u [r]) 0))
   (rng (r-2)/\
   ((0:Int)<=(r-2)/\(r-2)<(nodes.length:Int))/\
   bm fu ((at' nodes (r-2)).Lo) Root u Order Nodes order place nodes unique memo λu1 u2 lo=>
   bm fu ((at' nodes (r-2)).Hi) Root u1 Order u2 order place nodes unique memo λu3 u4 hi1=>
   ((u4++[(⟨(at' nodes (r-2)).Var,lo,hi1⟩:GDNode)]).length*24<=140737488355328)/\
   rng (1+((u4++[(⟨(at' nodes (r-2)).Var,lo,hi1⟩:GDNode)]).length:Int))/\
   Q (mput u3 [r] (1+((u4++[(⟨(at' nodes (r-2)).Var,lo,hi1⟩:GDNode)]).length:Int))) (u4++[(⟨(at' nodes (r-2)).Var,lo,hi1⟩:GDNode)]) (Option.getD (cD (mput u3 [r] (1+((u4++[(⟨(at' nodes (r-2)).Var,lo,hi1⟩:GDNode)]).length:Int))) [r]) 0))
def cU (root:Int) (order:List Int) (place:List Int) (nodes:List GDNode) (unique:GMap Int) (memo:GMap Int) (Q:GDiagram->Prop):Prop:=
 (order.length*8<=140737488355328)/\
 ∃fu,bm fu root 0 (mput (mput (iF:GMap Int) [0] 0) [1] 1) order ([]:List GDNode) order place nodes unique memo λ_ u1 r=>
 Q (⟨order,u1,r⟩:GDiagram)
end Go.Gg
namespace Go.Gg
def lT (refs:List Int) (first:Int) (order:List Int) (place:List Int) (nodes:List GDNode) (unique:GMap Int) (memo:GMap Int) (Q:List GDNode->GMap Int->GMap Int->Int->Prop):Prop:=
 bh (σ:=Int×Int×(List GDNode)×(GMap Int)×(GMap Int)) (first,0,nodes,unique,memo) λ⟨first1,x,x1,x2,x3⟩ next1=>
  ah (decide (x<(refs.length:Int)))
   (((0:Int)<=x/\x<(refs.length:Int))/\
   du first1 (at' refs x) order place x1 x2 x3 λu u1 u2 first2=>
   rng (x+1)/\
   next1 (first2,(x+1),u,u1,u2))
   (Q x1 x2 x3 first1)
def lj (refs:List Int) (first:Int) (order:List Int) (place:List Int) (nodes:List GDNode) (unique:GMap Int) (memo:GMap Int) (Q:List GDNode->GMap Int->GMap Int->Int->Prop):Prop:=
 bh (σ:=Int×Int×(List GDNode)×(GMap Int)×(GMap Int)) (first,0,nodes,unique,memo) λ⟨first1,x,x1,x2,x3⟩ next1=>
  ah (decide (x<(refs.length:Int)))
   (((0:Int)<=x/\x<(refs.length:Int))/\
   dR first1 (at' refs x) order place x1 x2 x3 λu u1 u2 first2=>
   rng (x+1)/\
   next1 (first2,(x+1),u,u1,u2))
   (Q x1 x2 x3 first1)
def li (refs:List Int) (first:Int) (order:List Int) (place:List Int) (nodes:List GDNode) (unique:GMap Int) (memo:GMap Int) (Q:List GDNode->GMap Int->GMap Int->Int->Prop):Prop:=
 bh (σ:=Int×Int×(List GDNode)×(GMap Int)×(GMap Int)) (first,0,nodes,unique,memo) λ⟨first1,x,x1,x2,x3⟩ next1=>
  ah (decide (x<(refs.length:Int)))
   (((0:Int)<=x/\x<(refs.length:Int))/\
   dr first1 (at' refs x) order place x1 x2 x3 λu u1 u2 first2=>
   rng (x+1)/\
   next1 (first2,(x+1),u,u1,u2))
   (Q x1 x2 x3 first1)
def i0 (refs:List Int) (k6:Int) (order:List Int) (place:List Int) (nodes:List GDNode) (unique:GMap Int) (memo:GMap Int) (Q:List GDNode->GMap Int->GMap Int->Int->Prop):Prop:=
 rng (k6+1)/\
 jn 8 (k6+1) (k6+1)/\
 ((0:Int)<=0/\0<((Int.toNat (k6+1)):Int))/\
 bh (σ:=Int×(List Int)×(List GDNode)×(GMap Int)×(GMap Int)) (0,(bq (bu (k6+1) 0) 0 1),nodes,unique,memo) λ⟨x,need,x1,x2,x3⟩ next1=>
  ah (decide (x<(refs.length:Int)))
   (((0:Int)<=x/\x<(refs.length:Int))/\
   bh (σ:=Int×(List Int)×(List GDNode)×(GMap Int)×(GMap Int)) (k6,need,x1,x2,x3) λ⟨j,need1,x4,x5,x6⟩ next2=>
    ah (decide (0<j))
     (rng (j-1)/\
     ((0:Int)<=(j-1)/\(j-1)<(need1.length:Int))/\
     ((0:Int)<=j/\j<(need1.length:Int))/\
     ∃u u1 u2 r,(∃fu,aC fu (at' refs x) (at' need1 (j-1)) (at' need1 j) order place x4 x5 x6 λy1 y2 y3 y4=>y1=u/\y2=u1/\y3=u2/\y4=r)/\
     ((0:Int)<=j/\j<(need1.length:Int))/\
     rng (j-1)/\
     next2 ((j-1),(bq need1 j r),u,u1,u2))
     (rng (x+1)/\
     next1 ((x+1),need1,x4,x5,x6)))
   (((0:Int)<=k6/\k6<(need.length:Int))/\
   Q x1 x2 x3 (at' need k6))
def fY (x:GNode) (refs:List Int) (order:List Int) (place:List Int) (nodes:List GDNode) (unique:GMap Int) (memo:GMap Int) (Q:List GDNode->GMap Int->GMap Int->Int->Prop):Prop:=
 ah (x.Kind == 0)
  (Q nodes unique memo x.K)
  (ah (x.Kind == 1)
   (((0:Int)<=0/\0<(refs.length:Int))/\
   dt (at' refs 0) order place nodes unique memo λu u1 u2 r=>
   Q u u1 u2 r)
   (ah (x.Kind == 2)
    (lT refs 1 order place nodes unique memo λu3 u4 u5 r1=>
    Q u3 u4 u5 r1)
    (ah (x.Kind == 3)
     (lj refs 0 order place nodes unique memo λu6 u7 u8 r2=>
     Q u6 u7 u8 r2)
     (ah (x.Kind == 5)
      (li refs 0 order place nodes unique memo λu9 u10 u11 r3=>
      Q u9 u10 u11 r3)
      (i0 refs x.K order place nodes unique memo λu12 u13 u14 r4=>
      Q u12 u13 u14 r4)))))
def ik (f:GFormula) (o:List Int) (Q:GDiagram->Option Int->Prop):Prop:=
 lh f λr _ r2=>
 ah (Option.isSome r2)
  (Q (⟨[],[],0⟩:GDiagram) r2)
  (mh o f.Vars λerr=>
  ah (Option.isSome err)
   (Q (⟨[],[],0⟩:GDiagram) err)
   (dk (α:=GFormula) (λnext4=>
    ah (decide (0<r))
     (k_ f λr7 r8=>
     ah (Option.isSome r8)
      (Q (⟨[],[],0⟩:GDiagram) r8)
      (next4 r7))
     (next4 (⟨f.Vars,[],f.Top⟩:GFormula)))
    λx=>
    i4 o λorder place unique memo=>
    rng (x.Vars+(x.Nodes.length:Int))/\
    jn 8 (x.Vars+(x.Nodes.length:Int)) (x.Vars+(x.Nodes.length:Int))/\
    bh (σ:=Int×(List Int)×(GMap Int)×(List GDNode)) (0,(bu (x.Vars+(x.Nodes.length:Int)) 0),unique,[]) λ⟨x1,refs,x2,x3⟩ next1=>
     ah (decide (x1<x.Vars))
      (cV x1 order place x3 x2 memo λu u1 r3=>
      ((0:Int)<=x1/\x1<(refs.length:Int))/\
      rng (x1+1)/\
      next1 ((x1+1),(bq refs x1 r3),u1,u))
      (bh (σ:=Int×(List Int)×(GMap Int)×(GMap Int)×(List GDNode)) (0,refs,x2,memo,x3) λ⟨x4,refs1,x5,x6,x7⟩ next2=>
       ah (decide (x4<(x.Nodes.length:Int)))
        (((0:Int)<=x4/\x4<(x.Nodes.length:Int))/\
        bh (σ:=Int×(List Int)) (0,[]) λ⟨x8,args⟩ next3=>
         ah (decide (x8<(((at' x.Nodes x4).Args).length:Int)))
          (((0:Int)<=x8/\x8<(((at' x.Nodes x4).Args).length:Int))/\
          ((0:Int)<=(at' ((at' x.Nodes x4).Args) x8)/\(at' ((at' x.Nodes x4).Args) x8)<(refs1.length:Int))/\
          ((args++[(at' refs1 (at' ((at' x.Nodes x4).Args) x8))]).length*8<=140737488355328)/\
          rng (x8+1)/\
          next3 ((x8+1),(args++[(at' refs1 (at' ((at' x.Nodes x4).Args) x8))])))
          (rng (x.Vars+x4)/\
          ∃u2 u3 u4 r4,(fY (at' x.Nodes x4) args order place x7 x5 x6 λy1 y2 y3 y4=>y1=u2/\y2=u3/\y3=u4/\y4=r4)/\
          ((0:Int)<=(x.Vars+x4)/\(x.Vars+x4)<(refs1.length:Int))/\
          rng (x.Vars+x4)/\
          ((0:Int)<=(x.Vars+x4)/\(x.Vars+x4)<(refs1.length:Int))/\
          cc (at' (bq refs1 (x.Vars+x4) r4) (x.Vars+x4)) 4096 order place u2 u3 u4 λr5=>
          ah (!r5)
           (Q (⟨[],[],0⟩:GDiagram) (some 4))
           (rng (x4+1)/\
           next2 ((x4+1),(bq refs1 (x.Vars+x4) r4),u3,u4,u2))))
        (((0:Int)<=x.Top/\x.Top<(refs1.length:Int))/\
        cU (at' refs1 x.Top) order place x7 x5 x6 λr6=>
        Q r6 none))))
end Go.Gg
namespace Go.Gg
def d4 (s:List Int) (Q:List Int->Prop):Prop:=
 ∀isnil:Bool,(isnil=true->s.length=0)->
 ah isnil
  (Q [])
  ((([]++s).length*8<=140737488355328)/\
  Q ([]++s))
def b_ (s:List (List GRat)) (Q:List (List GRat)->Prop):Prop:=
 ∀isnil:Bool,(isnil=true->s=[])->
 ah isnil
  (Q [])
  ((([]++s).length*24<=140737488355328)/\
  Q ([]++s))
end Go.Gg
namespace Go.Gg
def lH (x:GRat) (Q:Bool->Prop):Prop:=
 ia x λr=>
 Q (!r)
def bI (s:List GRat) (Q:Int->Prop):Prop:=
 bh (σ:=Int) 0 λx next1=>
  ah (decide (x<(s.length:Int)))
   (((0:Int)<=x/\x<(s.length:Int))/\
   lH (at' s x) λr=>
   ah r
    (Q x)
    (rng (x+1)/\
    next1 (x+1)))
   (Q (-1))
def bz (s:List GRat) (Q:Bool->Prop):Prop:=
 bI s λr=>
 Q (decide (0<=r))
def jT (p:List GRat) (vars:Int) (Q:Option Int->Prop):Prop:=
 ah ((p.length:Int) != vars)
  (Q (some 11))
  (bz p λr=>
  ah r
   (Q (some 3))
   (Q none))
def mY (v:List GRat) (r:Int) (Q:GRat->Prop):Prop:=
 ah (decide (r<2))
  (d8 r λr1=>
  Q r1)
  (rng (r-2)/\
  ((0:Int)<=(r-2)/\(r-2)<(v.length:Int))/\
  Q (at' v (r-2)))
def jS (r:Int) (v:List GRat) (Q:GRat->Prop):Prop:=
 ah (decide (r<2))
  (d8 r λr1=>
  Q r1)
  (rng (r-2)/\
  ((0:Int)<=(r-2)/\(r-2)<(v.length:Int))/\
  Q (at' v (r-2)))
def iK (n:GDNode) (p:List GRat) (v:List GRat) (Q:GRat->Prop):Prop:=
 ((0:Int)<=n.Var/\n.Var<(p.length:Int))/\
 eJ (d8 1) λr=>
 eJ (ey r (at' p n.Var)) λr1=>
 ∃r2,(jS n.Lo v λy1=>y1=r2)/\
 eJ (dv r1 r2) λr3=>
 ∃r4,(jS n.Hi v λy2=>y2=r4)/\
 eJ (dv (at' p n.Var) r4) λr5=>
 eJ (dw r3 r5) λr6=>
 Q r6
def jg (d:GDiagram) (p:List GRat) (Q:List GRat->Prop):Prop:=
 jn 56 0 (d.Nodes.length:Int)/\
 bh (σ:=Int×(List GRat)) (0,(bu 0 (⟨false,[],[]⟩:GRat))) λ⟨x,v⟩ next1=>
  ah (decide (x<(d.Nodes.length:Int)))
   (((0:Int)<=x/\x<(d.Nodes.length:Int))/\
   iK (at' d.Nodes x) p v λr=>
   ((v++[r]).length*56<=140737488355328)/\
   rng (x+1)/\
   next1 ((x+1),(v++[r])))
   (Q v)
def lY (f:GFormula) (p:List GRat) (Q:GRat->Option Int->Prop):Prop:=
 da f λerr=>
 ah (Option.isSome err)
  (Q (⟨false,[],[]⟩:GRat) err)
  (jT p f.Vars λerr1=>
  ah (Option.isSome err1)
   (Q (⟨false,[],[]⟩:GRat) err1)
   (mg f λr r1=>
   ah (Option.isSome r1)
    (Q (⟨false,[],[]⟩:GRat) r1)
    (ik f r λr2 r3=>
    ah (Option.isSome r3)
     (Q (⟨false,[],[]⟩:GRat) r3)
     (eJ (jg r2 p) λr4=>
     eJ (mY r4 r2.Root) λr5=>
     Q r5 none))))
end Go.Gg
namespace Go.Gg
def mB (x:GRat) (Q:Bool->Prop):Prop:=
 ia x λr=>
 Q (!r)
def bL (s:List GRat) (Q:Int->Prop):Prop:=
 bh (σ:=Int) 0 λx next1=>
  ah (decide (x<(s.length:Int)))
   (((0:Int)<=x/\x<(s.length:Int))/\
   mB (at' s x) λr=>
   ah r
    (Q x)
    (rng (x+1)/\
    next1 (x+1)))
   (Q (-1))
def bn (s:List GRat) (Q:Bool->Prop):Prop:=
 bL s λr=>
 Q (decide (0<=r))
def e_ (m:GMission) (Q:Option Int->Prop):Prop:=
 ah ((m.Phases.length:Int) == 0)
  (Q (some 11))
  (ah (decide (6<(m.Phases.length:Int)))
   (Q (some 4))
   (((0:Int)<=0/\0<(m.Phases.length:Int))/\
   bh (σ:=Int) 0 λx next1=>
    ah (decide (x<(m.Phases.length:Int)))
     (((0:Int)<=x/\x<(m.Phases.length:Int))/\
     da (at' m.Phases x) λerr=>
     ah (Option.isSome err)
      (Q err)
      (ah ((at' m.Phases x).Vars != (at' m.Phases 0).Vars)
       (Q (some 11))
       (rng (x+1)/\
       next1 (x+1))))
     (rng ((at' m.Phases 0).Vars*(m.Phases.length:Int))/\
     ah (decide (24<((at' m.Phases 0).Vars*(m.Phases.length:Int))))
      (Q (some 4))
      (ah ((m.P.length:Int) != (at' m.Phases 0).Vars)
       (Q (some 11))
       (bh (σ:=Int) 0 λx1 next2=>
        ah (decide (x1<(m.P.length:Int)))
         (((0:Int)<=x1/\x1<(m.P.length:Int))/\
         ah (((at' m.P x1).length:Int) != (m.Phases.length:Int))
          (Q (some 11))
          (bn (at' m.P x1) λr=>
          ah r
           (Q (some 3))
           (rng (x1+1)/\
           next2 (x1+1))))
         (Q none))))))
def eG (m:GMission) (h1:List Int) (Q:Option Int->Prop):Prop:=
 e_ m λerr=>
 ah (Option.isSome err)
  (Q err)
  (ah ((h1.length:Int) != (m.P.length:Int))
   (Q (some 11))
   (bh (σ:=Int) 0 λx next1=>
    ah (decide (x<(h1.length:Int)))
     (((0:Int)<=x/\x<(h1.length:Int))/\
     dk (α:=Bool) (λnext2=>
      ah (decide ((at' h1 x)<0))
       (next2 true)
       (next2 (decide ((m.Phases.length:Int)<(at' h1 x)))))
      λx1=>
      ah x1
       (Q (some 3))
       (rng (x+1)/\
       next1 (x+1)))
     (Q none)))
def jW (h1:List Int) (j:Int) (Q:Int->Prop):Prop:=
 bh (σ:=Int×Int) (0,0) λ⟨set,x⟩ next1=>
  ah (decide (x<(h1.length:Int)))
   (((0:Int)<=x/\x<(h1.length:Int))/\
   ah (decide ((at' h1 x)<=j))
    ((((0:Int)<=x/\x<=64)/\rng (1*2^(Int.toNat x)))/\
    rng (x+1)/\
    next1 ((bits .or .i64 set (1*2^(Int.toNat x))),(x+1)))
    (rng (x+1)/\
    next1 (set,(x+1))))
   (Q set)
def kT (m:GMission) (h1:List Int) (Q:Int->Option Int->Prop):Prop:=
 eG m h1 λerr=>
 ah (Option.isSome err)
  (Q 0 err)
  (bh (σ:=Int) 0 λx next1=>
   ah (decide (x<(m.Phases.length:Int)))
    (((0:Int)<=x/\x<(m.Phases.length:Int))/\
    eJ (jW h1 x) λr=>
    GP (j4 (at' m.Phases x) r) λr1 r2=>
    ah (Option.isSome r2)
     (Q 0 r2)
     (ah r1
      (Q x none)
      (rng (x+1)/\
      next1 (x+1))))
    (Q (m.Phases.length:Int) none))
def jX (m:GMission) (h1:List Int) (Q:GRat->Option Int->Prop):Prop:=
 eG m h1 λerr=>
 ah (Option.isSome err)
  (Q (⟨false,[],[]⟩:GRat) err)
  (d8 1 λr=>
  bh (σ:=Int×GRat) (0,r) λ⟨x,x1⟩ next1=>
   ah (decide (x<(h1.length:Int)))
    (((0:Int)<=x/\x<(h1.length:Int))/\
    ((0:Int)<=x/\x<(m.P.length:Int))/\
    rng ((at' h1 x)+1)/\
    ((0:Int)<=0/\0<=(min ((at' h1 x)+1) (m.Phases.length:Int))/\(min ((at' h1 x)+1) (m.Phases.length:Int))<=((at' m.P x).length:Int))/\
    bh (σ:=Int×GRat) (0,x1) λ⟨x2,x3⟩ next2=>
     ah (decide (x2<((cB (at' m.P x) 0 (min ((at' h1 x)+1) (m.Phases.length:Int))).length:Int)))
      (((0:Int)<=x2/\x2<((cB (at' m.P x) 0 (min ((at' h1 x)+1) (m.Phases.length:Int))).length:Int))/\
      dk (α:=GRat) (λnext3=>
       ah (decide (x2<(at' h1 x)))
        (ey r (at' (cB (at' m.P x) 0 (min ((at' h1 x)+1) (m.Phases.length:Int))) x2) λr2=>
        next3 r2)
        (next3 (at' (cB (at' m.P x) 0 (min ((at' h1 x)+1) (m.Phases.length:Int))) x2)))
       λx4=>
       dv x3 x4 λr1=>
       rng (x2+1)/\
       next2 ((x2+1),r1))
      (rng (x+1)/\
      next1 ((x+1),x3)))
    (Q x1 none))
def dz (kind:Int) (k2:Int) (args:List Int) (Vars:Int) (_Top:Int) (Nodes:List GNode) (Q:List GNode->Int->Prop):Prop:=
 ((Nodes++[(⟨kind,k2,args⟩:GNode)]).length*40<=140737488355328)/\
 rng (Vars+((Nodes++[(⟨kind,k2,args⟩:GNode)]).length:Int))/\
 rng ((Vars+((Nodes++[(⟨kind,k2,args⟩:GNode)]).length:Int))-1)/\
 Q (Nodes++[(⟨kind,k2,args⟩:GNode)]) ((Vars+((Nodes++[(⟨kind,k2,args⟩:GNode)]).length:Int))-1)
def dx (arg:Int) (u:GFormula) (u1:Int) (u2:Int) (u3:List (List Int)) (Q:Int->Prop):Prop:=
 ah (decide (arg<u.Vars))
  (((0:Int)<=arg/\arg<(u3.length:Int))/\
  ((0:Int)<=u1/\u1<((at' u3 arg).length:Int))/\
  Q (at' (at' u3 arg) u1))
  (rng (u2+arg)/\
  rng ((u2+arg)-u.Vars)/\
  Q ((u2+arg)-u.Vars))
def jY (m:GMission) (Q:GFormula->List GRat->Option Int->Prop):Prop:=
 e_ m λerr=>
 ah (Option.isSome err)
  (Q (⟨0,[],0⟩:GFormula) [] err)
  (rng ((m.P.length:Int)*(m.Phases.length:Int))/\
  jn 24 (m.P.length:Int) (m.P.length:Int)/\
  bh (σ:=Int×(List (List Int))×(List GNode)) (0,(bu (m.P.length:Int) []),[]) λ⟨x,x1,x2⟩ next1=>
   ah (decide (x<((Int.toNat (m.P.length:Int)):Int)))
    (bh (σ:=Int×(List (List Int))×(List Int)×(List GNode)) (0,x1,[],x2) λ⟨x3,x4,so,x5⟩ next2=>
     ah (decide (x3<(m.Phases.length:Int)))
      (rng (x*(m.Phases.length:Int))/\
      rng ((x*(m.Phases.length:Int))+x3)/\
      ((so++[((x*(m.Phases.length:Int))+x3)]).length*8<=140737488355328)/\
      ah (x3 == 0)
       (((0:Int)<=x/\x<(x4.length:Int))/\
       ((0:Int)<=0/\0<((so++[((x*(m.Phases.length:Int))+x3)]).length:Int))/\
       ((at' x4 x++[(at' (so++[((x*(m.Phases.length:Int))+x3)]) 0)]).length*8<=140737488355328)/\
       ((0:Int)<=x/\x<(x4.length:Int))/\
       rng (x3+1)/\
       next2 ((x3+1),(bq x4 x (at' x4 x++[(at' (so++[((x*(m.Phases.length:Int))+x3)]) 0)])),(so++[((x*(m.Phases.length:Int))+x3)]),x5))
       (((0:Int)<=x/\x<(x4.length:Int))/\
       ∃r,(d4 (so++[((x*(m.Phases.length:Int))+x3)]) λy1=>y1=r)/\
       ∃u r1,(dz 3 0 r ((m.P.length:Int)*(m.Phases.length:Int)) 0 x5 λy2 y3=>y2=u/\y3=r1)/\
       ((at' x4 x++[r1]).length*8<=140737488355328)/\
       ((0:Int)<=x/\x<(x4.length:Int))/\
       rng (x3+1)/\
       next2 ((x3+1),(bq x4 x (at' x4 x++[r1])),(so++[((x*(m.Phases.length:Int))+x3)]),u)))
      (rng (x+1)/\
      next1 ((x+1),x4,x5)))
    (bh (σ:=Int×(List Int)×(List GNode)) (0,[],x2) λ⟨x6,tops,x7⟩ next3=>
     ah (decide (x6<(m.Phases.length:Int)))
      (((0:Int)<=x6/\x6<(m.Phases.length:Int))/\
      rng (((m.P.length:Int)*(m.Phases.length:Int))+(x7.length:Int))/\
      bh (σ:=Int×(List GNode)) (0,x7) λ⟨x8,x9⟩ next4=>
       ah (decide (x8<(((at' m.Phases x6).Nodes).length:Int)))
        (((0:Int)<=x8/\x8<(((at' m.Phases x6).Nodes).length:Int))/\
        bh (σ:=Int×(List Int)) (0,[]) λ⟨x10,args⟩ next5=>
         ah (decide (x10<(((at' ((at' m.Phases x6).Nodes) x8).Args).length:Int)))
          (((0:Int)<=x10/\x10<(((at' ((at' m.Phases x6).Nodes) x8).Args).length:Int))/\
          ko (at' ((at' ((at' m.Phases x6).Nodes) x8).Args) x10) λa=>
          dx a (at' m.Phases x6) x6 (((m.P.length:Int)*(m.Phases.length:Int))+(x7.length:Int)) x1 λr2=>
          ((args++[r2]).length*8<=140737488355328)/\
          rng (x10+1)/\
          next5 ((x10+1),(args++[r2])))
          (dz ((at' ((at' m.Phases x6).Nodes) x8).Kind) ((at' ((at' m.Phases x6).Nodes) x8).K) args ((m.P.length:Int)*(m.Phases.length:Int)) 0 x9 λu1 _=>
          rng (x8+1)/\
          next4 ((x8+1),u1)))
        (dx ((at' m.Phases x6).Top) (at' m.Phases x6) x6 (((m.P.length:Int)*(m.Phases.length:Int))+(x7.length:Int)) x1 λr4=>
        ((tops++[r4]).length*8<=140737488355328)/\
        rng (x6+1)/\
        next3 ((x6+1),(tops++[r4]),x9)))
      (((0:Int)<=0/\0<(tops.length:Int))/\
      dk (α:=Int×(List GNode)) (λnext8=>
       ah (decide (1<(m.Phases.length:Int)))
        (dz 3 0 tops ((m.P.length:Int)*(m.Phases.length:Int)) (at' tops 0) x7 λu2 r6=>
        next8 (r6,u2))
        (next8 ((at' tops 0),x7)))
       λ⟨x11,x12⟩=>
       ah (decide (128<(x12.length:Int)))
        (Q (⟨0,[],0⟩:GFormula) [] (some 4))
        (bh (σ:=Int×(List GRat)) (0,[]) λ⟨x13,p⟩ next6=>
         ah (decide (x13<(m.P.length:Int)))
          (((0:Int)<=x13/\x13<(m.P.length:Int))/\
          bh (σ:=Int×(List GRat)) (0,p) λ⟨x14,p1⟩ next7=>
           ah (decide (x14<((at' m.P x13).length:Int)))
            (((0:Int)<=x14/\x14<((at' m.P x13).length:Int))/\
            dw (at' (at' m.P x13) x14) (⟨false,[],[]⟩:GRat) λr5=>
            ((p1++[r5]).length*56<=140737488355328)/\
            rng (x14+1)/\
            next7 ((x14+1),(p1++[r5])))
            (rng (x13+1)/\
            next6 ((x13+1),p1)))
          (Q (⟨((m.P.length:Int)*(m.Phases.length:Int)),x12,x11⟩:GFormula) p none)))))
end Go.Gg
namespace Go.Gg
def cN (m:GMission) (Q:Int->Prop):Prop:=
 ((0:Int)<=0/\0<(m.Phases.length:Int))/\
 Q ((at' m.Phases 0).Vars)
def mw (m:GMission) (Q:Int->Prop):Prop:=
 ah ((m.Phases.length:Int) == 0)
  (Q 11)
  (ah (decide (6<(m.Phases.length:Int)))
   (Q 4)
   (bh (σ:=Int) 0 λj next1=>
    ah (decide (j<(m.Phases.length:Int)))
     (((0:Int)<=j/\j<(m.Phases.length:Int))/\
     l_ (at' m.Phases j) λe=>
     ah (e != 0)
      (Q e)
      (((0:Int)<=j/\j<(m.Phases.length:Int))/\
      eJ (cN m) λr=>
      ah ((at' m.Phases j).Vars != r)
       (Q 11)
       (rng (j+1)/\
       next1 (j+1))))
     (Q 0)))
def gX (m:GMission) (Q:Int->Prop):Prop:=
 mw m λe=>
 ah (e != 0)
  (Q e)
  (eJ (cN m) λr=>
  rng (r*(m.Phases.length:Int))/\
  ah (decide (24<(r*(m.Phases.length:Int))))
   (Q 4)
   (eJ (cN m) λr1=>
   ah ((m.P.length:Int) != r1)
    (Q 11)
    (bh (σ:=Int) 0 λi next1=>
     ah (decide (i<(m.P.length:Int)))
      (((0:Int)<=i/\i<(m.P.length:Int))/\
      ah (((at' m.P i).length:Int) != (m.Phases.length:Int))
       (Q 11)
       (bh (σ:=Int) 0 λj next2=>
        ((0:Int)<=i/\i<(m.P.length:Int))/\
        ah (decide (j<((at' m.P i).length:Int)))
         (((0:Int)<=i/\i<(m.P.length:Int))/\
         ((0:Int)<=j/\j<((at' m.P i).length:Int))/\
         m4 (at' (at' m.P i) j) λr2=>
         ah (!r2)
          (Q 3)
          (rng (j+1)/\
          next2 (j+1)))
         (rng (i+1)/\
         next1 (i+1))))
      (Q 0))))
def lJ (events:Int) (phases:Int) (Q:List GNode->Prop):Prop:=
 bh (σ:=Int×(List GNode)) (0,[]) λ⟨i,out⟩ next1=>
  ah (decide (i<events))
   (bh (σ:=Int×(List GNode)) (1,out) λ⟨j,out1⟩ next2=>
    ah (decide (j<phases))
     (bh (σ:=Int×(List Int)) (0,[]) λ⟨k1,x⟩ next3=>
      ah (decide (k1<=j))
       (rng (i*phases)/\
       rng ((i*phases)+k1)/\
       ((x++[((i*phases)+k1)]).length*8<=140737488355328)/\
       rng (k1+1)/\
       next3 ((k1+1),(x++[((i*phases)+k1)])))
       (((out1++[(⟨3,0,x⟩:GNode)]).length*40<=140737488355328)/\
       rng (j+1)/\
       next2 ((j+1),(out1++[(⟨3,0,x⟩:GNode)]))))
     (rng (i+1)/\
     next1 ((i+1),out1)))
   (Q out)
def jw (m:GMission) (j:Int) (arg:Int) (first:Int) (Q:Int->Prop):Prop:=
 eJ (cN m) λn=>
 ah (decide (n<=arg))
  (rng (first+arg)/\
  rng ((first+arg)-n)/\
  Q ((first+arg)-n))
  (ah (j == 0)
   (rng (arg*(m.Phases.length:Int))/\
   Q (arg*(m.Phases.length:Int)))
   (rng (n*(m.Phases.length:Int))/\
   rng ((m.Phases.length:Int)-1)/\
   rng (arg*((m.Phases.length:Int)-1))/\
   rng ((n*(m.Phases.length:Int))+(arg*((m.Phases.length:Int)-1)))/\
   rng (((n*(m.Phases.length:Int))+(arg*((m.Phases.length:Int)-1)))+j)/\
   rng ((((n*(m.Phases.length:Int))+(arg*((m.Phases.length:Int)-1)))+j)-1)/\
   Q ((((n*(m.Phases.length:Int))+(arg*((m.Phases.length:Int)-1)))+j)-1)))
def kO (m:GMission) (Q:GFormula->List GRat->Int->Prop):Prop:=
 eJ (cN m) λn=>
 rng (n*(m.Phases.length:Int))/\
 lJ n (m.Phases.length:Int) λr=>
 bh (σ:=Int×(List GNode)×(List Int)) (0,r,[]) λ⟨j,x,x1⟩ next1=>
  ah (decide (j<(m.Phases.length:Int)))
   (((0:Int)<=j/\j<(m.Phases.length:Int))/\
   rng ((n*(m.Phases.length:Int))+(x.length:Int))/\
   bh (σ:=Int×(List GNode)) (0,x) λ⟨i,x2⟩ next2=>
    ah (decide (i<(((at' m.Phases j).Nodes).length:Int)))
     (((0:Int)<=i/\i<(((at' m.Phases j).Nodes).length:Int))/\
     ((0:Int)<=i/\i<(((at' m.Phases j).Nodes).length:Int))/\
     bh (σ:=Int×(List Int)) (0,[]) λ⟨a,x3⟩ next3=>
      ((0:Int)<=i/\i<(((at' m.Phases j).Nodes).length:Int))/\
      ah (decide (a<(((at' ((at' m.Phases j).Nodes) i).Args).length:Int)))
       (((0:Int)<=i/\i<(((at' m.Phases j).Nodes).length:Int))/\
       ((0:Int)<=a/\a<(((at' ((at' m.Phases j).Nodes) i).Args).length:Int))/\
       eJ (jw m j (at' ((at' ((at' m.Phases j).Nodes) i).Args) a) ((n*(m.Phases.length:Int))+(x.length:Int))) λr1=>
       ((x3++[r1]).length*8<=140737488355328)/\
       rng (a+1)/\
       next3 ((a+1),(x3++[r1])))
       (((x2++[(⟨(at' ((at' m.Phases j).Nodes) i).Kind,(at' ((at' m.Phases j).Nodes) i).K,x3⟩:GNode)]).length*40<=140737488355328)/\
       rng (i+1)/\
       next2 ((i+1),(x2++[(⟨(at' ((at' m.Phases j).Nodes) i).Kind,(at' ((at' m.Phases j).Nodes) i).K,x3⟩:GNode)]))))
     (eJ (jw m j ((at' m.Phases j).Top) ((n*(m.Phases.length:Int))+(x.length:Int))) λr2=>
     ((x1++[r2]).length*8<=140737488355328)/\
     rng (j+1)/\
     next1 ((j+1),x2,(x1++[r2]))))
   (((0:Int)<=0/\0<(x1.length:Int))/\
   dk (α:=Int×(List GNode)) (λnext5=>
    ah (decide (1<(m.Phases.length:Int)))
     (rng ((n*(m.Phases.length:Int))+(x.length:Int))/\
     ((x++[(⟨3,0,x1⟩:GNode)]).length*40<=140737488355328)/\
     next5 (((n*(m.Phases.length:Int))+(x.length:Int)),(x++[(⟨3,0,x1⟩:GNode)])))
     (next5 ((at' x1 0),x)))
    λ⟨x4,x5⟩=>
    ah (decide (128<(x5.length:Int)))
     (Q (⟨0,[],0⟩:GFormula) [] 4)
     (bh (σ:=Int×(List GRat)) (0,[]) λ⟨i1,p⟩ next4=>
      ah (decide (i1<n))
       (((0:Int)<=i1/\i1<(m.P.length:Int))/\
       ((p++(at' m.P i1)).length*56<=140737488355328)/\
       rng (i1+1)/\
       next4 ((i1+1),(p++(at' m.P i1))))
       (Q (⟨(n*(m.Phases.length:Int)),x5,x4⟩:GFormula) p 0)))
end Go.Gg
namespace Go.Gg
def gP (m:GMission) (Q:List GRat->Option Int->Prop):Prop:=
 e_ m λerr=>
 ah (Option.isSome err)
  (Q [] err)
  (bh (σ:=Int×Int) (1,0) λ⟨all,x⟩ next1=>
   ah (decide (x<(m.P.length:Int)))
    (rng ((m.Phases.length:Int)+1)/\
    rng (all*((m.Phases.length:Int)+1))/\
    ah (decide (4096<(all*((m.Phases.length:Int)+1))))
     (Q [] (some 4))
     (rng (x+1)/\
     next1 ((all*((m.Phases.length:Int)+1)),(x+1))))
    (jn 56 (m.Phases.length:Int) (m.Phases.length:Int)/\
    bh (σ:=Int×(List GRat)) (0,(bu (m.Phases.length:Int) (⟨false,[],[]⟩:GRat))) λ⟨x1,out⟩ next2=>
     ah (decide (x1<all))
      (jn 8 (m.P.length:Int) (m.P.length:Int)/\
      bh (σ:=Int×Int×(List Int)) (x1,0,(bu (m.P.length:Int) 0)) λ⟨number,x2,h1⟩ next3=>
       ah (decide (x2<((Int.toNat (m.P.length:Int)):Int)))
        (rng ((m.Phases.length:Int)+1)/\
        ((m.Phases.length:Int)+1)≠0/\
        rng ((m.Phases.length:Int)+1)/\
        (((m.Phases.length:Int)+1)≠0/\rng (Int.tdiv number ((m.Phases.length:Int)+1)))/\
        ((0:Int)<=x2/\x2<(h1.length:Int))/\
        rng (x2+1)/\
        next3 ((Int.tdiv number ((m.Phases.length:Int)+1)),(x2+1),(bq h1 x2 (Int.tmod number ((m.Phases.length:Int)+1)))))
        (kT m h1 λr r1=>
        ah (Option.isSome r1)
         (Q [] r1)
         (ah (r == (m.Phases.length:Int))
          (rng (x1+1)/\
          next2 ((x1+1),out))
          (jX m h1 λr2 r3=>
          ah (Option.isSome r3)
           (Q [] r3)
           (((0:Int)<=r/\r<(out.length:Int))/\
           eJ (dw (at' out r) r2) λr4=>
           ((0:Int)<=r/\r<(out.length:Int))/\
           rng (x1+1)/\
           next2 ((x1+1),(bq out r r4)))))))
      (Q out none)))
def eN (m:GMission) (Q:GRat->Option Int->Prop):Prop:=
 jY m λr r1 r2=>
 ah (Option.isSome r2)
  (Q (⟨false,[],[]⟩:GRat) r2)
  (lY r r1 λr3 r4=>
  Q r3 r4)
def j0 (m:GMission) (i:Int) (Q:GRat->Option Int->Prop):Prop:=
 e_ m λerr=>
 ah (Option.isSome err)
  (Q (⟨false,[],[]⟩:GRat) err)
  (dk (α:=Bool) (λnext1=>
   ah (decide (i<0))
    (next1 true)
    (next1 (decide ((m.P.length:Int)<=i))))
   λx=>
   ah x
    (Q (⟨false,[],[]⟩:GRat) (some 10))
    (eN m λr r1=>
    ah (Option.isSome r1)
     (Q (⟨false,[],[]⟩:GRat) r1)
     (eJ (b_ m.P) λr2=>
     jn 56 (m.Phases.length:Int) (m.Phases.length:Int)/\
     ((0:Int)<=i/\i<(r2.length:Int))/\
     eN (⟨m.Phases,(bq r2 i (bu (m.Phases.length:Int) (⟨false,[],[]⟩:GRat)))⟩:GMission) λr3 r4=>
     ah (Option.isSome r4)
      (Q (⟨false,[],[]⟩:GRat) r4)
      (ey r r3 λr5=>
      Q r5 none))))
end Go.Gg
namespace Go.Gg
def eQ (m:GMission) (Q:Int->Prop):Prop:=
 bh (σ:=Int×Int) (1,0) λ⟨n,i⟩ next1=>
  cN m λr=>
  ah (decide (i<r))
   (ah (decide (n<=4096))
    (rng ((m.Phases.length:Int)+1)/\
    rng (n*((m.Phases.length:Int)+1))/\
    rng (i+1)/\
    next1 ((n*((m.Phases.length:Int)+1)),(i+1)))
    (Q n))
   (Q n)
end Go.Gg
namespace Go.Gg
def jh (f:GFormula) (Q:Bool->Prop):Prop:=
 ma f λbelow=>
 bh (σ:=Int) 0 λi next1=>
  ah (decide (i<(f.Nodes.length:Int)))
   (rng (f.Vars+i)/\
   ((0:Int)<=(f.Vars+i)/\(f.Vars+i)<(below.length:Int))/\
   ah (at' below (f.Vars+i))
    (((0:Int)<=i/\i<(f.Nodes.length:Int))/\
    ah ((at' f.Nodes i).Kind == 1)
     (Q false)
     (((0:Int)<=i/\i<(f.Nodes.length:Int))/\
     ah ((at' f.Nodes i).Kind == 5)
      (Q false)
      (rng (i+1)/\
      next1 (i+1))))
    (rng (i+1)/\
    next1 (i+1)))
   (Q true)
end Go.Gg
namespace Go.Gg
def gJ (n:Int) (d:Int) (Q:GRat->Prop):Prop:=
 kq n d λr _=>
 Q r
def ii (Q:GMission->Prop):Prop:=
 gJ 1 2 λr=>
 Q (⟨[(⟨2,[(⟨2,0,[0,1]⟩:GNode)],2⟩:GFormula),(⟨2,[(⟨3,0,[0,1]⟩:GNode)],2⟩:GFormula)],[[r,r],[r,r]]⟩:GMission)
def jD (Q:Bool->Prop):Prop:=
 ii λr=>
 gP r λr1 r2=>
 ii λr3=>
 eN r3 λr4 r5=>
 ah (Option.isNone r2)
  (ah (Option.isNone r5)
   (eJ (gJ 15 16) λr6=>
   eJ (nw r4 r6) λr7=>
   ah r7
    (eJ (gJ 1 4) λr8=>
    eJ (gJ 11 16) λr9=>
    eJ (lU r1 [r8,r9]) λr10=>
    Q r10)
    (Q false))
   (Q false))
  (Q false)
def mn (m:GMission) (Q:Bool->Prop):Prop:=
 ah (decide (20<(m.Phases.length:Int)))
  (Q true)
  (ah (decide (50<(m.P.length:Int)))
   (Q true)
   (bh (σ:=Int) 0 λi next1=>
    ah (decide (i<(m.P.length:Int)))
     (((0:Int)<=i/\i<(m.P.length:Int))/\
     ah (decide (50<((at' m.P i).length:Int)))
      (Q true)
      (bh (σ:=Int) 0 λj next2=>
       ((0:Int)<=i/\i<(m.P.length:Int))/\
       ah (decide (j<((at' m.P i).length:Int)))
        (((0:Int)<=i/\i<(m.P.length:Int))/\
        ((0:Int)<=j/\j<((at' m.P i).length:Int))/\
        ah (decide (4<(((at' (at' m.P i) j).Num).length:Int)))
         (Q true)
         (((0:Int)<=i/\i<(m.P.length:Int))/\
         ((0:Int)<=j/\j<((at' m.P i).length:Int))/\
         ah (decide (4<(((at' (at' m.P i) j).Den).length:Int)))
          (Q true)
          (rng (j+1)/\
          next2 (j+1))))
        (rng (i+1)/\
        next1 (i+1))))
     (gX m λr=>
     ah (r == 0)
      (eQ m λr1=>
      ah (decide (300<r1))
       (eQ m λr2=>
       Q (decide (r2<=4096)))
       (Q false))
      (Q false))))
def ni (m:GMission) (Q:Bool->Prop):Prop:=
 gX m λr=>
 ah (r == 0)
  (eQ m λr1=>
  Q (decide (4096<r1)))
  (Q false)
def nE (m:GMission) (Q:Int->Prop):Prop:=
 kO m λ_ _ r2=>
 Q r2
def ml (m:GMission) (Q:Bool->Prop):Prop:=
 mn m λr=>
 ah (!r)
  (gX m λr1=>
  ah (r1 == 0)
   (ni m λr2=>
   ah (!r2)
    (nE m λr3=>
    Q (r3 == 0))
    (Q false))
   (Q false))
  (Q false)
def jo (m:GMission) (Q:Bool->Prop):Prop:=
 bh (σ:=Int) 0 λj next1=>
  ah (decide (j<(m.Phases.length:Int)))
   (((0:Int)<=j/\j<(m.Phases.length:Int))/\
   jh (at' m.Phases j) λr=>
   ah (!r)
    (Q false)
    (rng (j+1)/\
    next1 (j+1)))
   (Q true)
end Go.Gg
namespace Go.Gg
def jM (m:GMission) (i:Int) (Q:Bool->Prop):Prop:=
 dk (α:=Bool) (λnext1=>
  jD λr7=>
  ah (!r7)
   (next1 true)
   (ml m λr8=>
   ah (!r8)
    (next1 true)
    (jo m λr9=>
    ah (!r9)
     (next1 true)
     (ah (decide (i<0))
      (next1 true)
      (cN m λr10=>
      next1 (decide (r10<=i)))))))
  λx=>
  ah x
   (jD λr=>
   Q r)
   (eN m λr1 r2=>
   j0 m i λr3 r4=>
   ah (Option.isNone r2)
    (ah (Option.isNone r4)
     (fw r3 λr5=>
     ah (decide (0<=r5))
      (iw r3 r1 λr6=>
      Q (decide (r6<=0)))
      (Q false))
     (Q false))
    (Q false))
end Go.Gg
