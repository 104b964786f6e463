/- The structures of the program and how they are encoded. Conditions: none. -/
import Derived.Test.YtnjgdkfhgmebjaaGreatGc
import Derived.Test.YtnjgdkfhgmebjaaGreatGf
import Derived.Test.YtnjgdkfhgmebjaaGreatGd
namespace Go.Gg
structure GNode where
 Kind:Int
 K:Int
 Args:List Int
instance:Inhabited GNode:=⟨⟨0,0,[]⟩⟩
def aT (r:GNode):AV:=.agg [.int .i64 r.Kind,.int .i64 r.K,eL (AV.int .i64) r.Args]
structure GFormula where
 Vars:Int
 Nodes:List GNode
 Top:Int
instance:Inhabited GFormula:=⟨⟨0,[],0⟩⟩
def ah (r:GFormula):AV:=.agg [.int .i64 r.Vars,eL aT r.Nodes,.int .i64 r.Top]
structure GRat where
 Neg:Bool
 Num:List Int
 Den:List Int
instance:Inhabited GRat:=⟨⟨false,[],[]⟩⟩
def aj (r:GRat):AV:=.agg [.bool r.Neg,eL (AV.int .u32) r.Num,eL (AV.int .u32) r.Den]
structure GCauseGroup where
 Kind:Int
 Members:List Int
 Factors:List GRat
instance:Inhabited GCauseGroup:=⟨⟨0,[],[]⟩⟩
structure GCauses where
 P:List GRat
 Groups:List GCauseGroup
instance:Inhabited GCauses:=⟨⟨[],[]⟩⟩
structure GMission where
 Phases:List GFormula
 P:List (List GRat)
instance:Inhabited GMission:=⟨⟨[],[]⟩⟩
def au (r:GMission):AV:=.agg [eL ah r.Phases,eL (eL aj) r.P]
structure GCube where
 Yes:Int
 No:Int
instance:Inhabited GCube:=⟨⟨0,0⟩⟩
structure Gcause where
 p:GRat
 members:List Int
instance:Inhabited Gcause:=⟨⟨default,[]⟩⟩
structure GDNode where
 Var:Int
 Lo:Int
 Hi:Int
instance:Inhabited GDNode:=⟨⟨0,0,0⟩⟩
def aS (r:GDNode):AV:=.agg [.int .i64 r.Var,.int .i64 r.Lo,.int .i64 r.Hi]
structure GDiagram where
 Order:List Int
 Nodes:List GDNode
 Root:Int
instance:Inhabited GDiagram:=⟨⟨[],[],0⟩⟩
def fw (r:GDiagram):AV:=.agg [eL (AV.int .i64) r.Order,eL aS r.Nodes,.int .i64 r.Root]
structure GZero where
 Nodes:List GDNode
 Root:Int
instance:Inhabited GZero:=⟨⟨[],0⟩⟩
structure Gtable where
 events:List Int
 true:List Bool
instance:Inhabited Gtable:=⟨⟨[],[]⟩⟩
structure Gwalk where
 Formula:GFormula
 events:List Int
 seen:List Bool
instance:Inhabited Gwalk:=⟨⟨default,[],[]⟩⟩
structure GsetsKey where
 op:Int
 a:Int
 b:Int
instance:Inhabited GsetsKey:=⟨⟨0,0,0⟩⟩
end Go.Gg
namespace Go.Gg
def gM:ByteArray:=⟨#[0,1,2,2,3,3,3,3,4,4,4,4,4,4,4,4,5,5,5,5,5,5,5,5,5,5,5,5,5,5,5,5,6,6,6,6,6,6,6,6,6,6,6,6,6,6,6,6,6,6,6,6,6,6,6,6,6,6,6,6,6,6,6,6,7,7,7,7,7,7,7,7,7,7,7,7,7,7,7,7,7,7,7,7,7,7,7,7,7,7,7,7,7,7,7,7,7,7,7,7,7,7,7,7,7,7,7,7,7,7,7,7,7,7,7,7,7,7,7,7,7,7,7,7,7,7,7,7,8,8,8,8,8,8,8,8,8,8,8,8,8,8,8,8,8,8,8,8,8,8,8,8,8,8,8,8,8,8,8,8,8,8,8,8,8,8,8,8,8,8,8,8,8,8,8,8,8,8,8,8,8,8,8,8,8,8,8,8,8,8,8,8,8,8,8,8,8,8,8,8,8,8,8,8,8,8,8,8,8,8,8,8,8,8,8,8,8,8,8,8,8,8,8,8,8,8,8,8,8,8,8,8,8,8,8,8,8,8,8,8,8,8,8,8,8,8,8,8,8,8,8,8,8,8,8,8]⟩
def bU (a:List Int) (Q:List Int->Prop):Prop:=
 dc (α:=Int) (λnext1=>
  bf (σ:=Int) (a.length:Int) λn1 next2=>
   ak (decide (0<n1))
    (rng (n1-1)/\
    ((0:Int)<=(n1-1)/\(n1-1)<(a.length:Int))/\
    ak ((at' a (n1-1)) == 0)
     (rng (n1-1)/\
     next2 (n1-1))
     (next1 n1))
    (next1 n1))
  λn=>
  ak (n == 0)
   (Q [])
   (((0:Int)<=0/\0<=n/\n<=(a.length:Int))/\
   (([]++(cE a 0 n)).length*4<=140737488355328)/\
   Q ([]++(cE a 0 n)))
def dv (a:List Int) (b:List Int) (Q:Int->Prop):Prop:=
 bU a λa1=>
 bU b λb1=>
 ak ((a1.length:Int) != (b1.length:Int))
  (ak (decide ((a1.length:Int)<(b1.length:Int)))
   (Q (-1))
   (Q 1))
  (rng ((a1.length:Int)-1)/\
  bf (σ:=Int) ((a1.length:Int)-1) λi next1=>
   ak (decide (0<=i))
    (((0:Int)<=i/\i<(a1.length:Int))/\
    ((0:Int)<=i/\i<(b1.length:Int))/\
    ak (decide ((at' a1 i)<(at' b1 i)))
     (Q (-1))
     (((0:Int)<=i/\i<(a1.length:Int))/\
     ((0:Int)<=i/\i<(b1.length:Int))/\
     ak (decide ((at' b1 i)<(at' a1 i)))
      (Q 1)
      (rng (i-1)/\
      next1 (i-1))))
    (Q 0))
def kG (n:Int) (Q:List Int->Prop):Prop:=
 ak (decide (n<=0))
  (Q [])
  (bU [(IntKind.wrap .u32 n),(IntKind.wrap .u32 (n / 2^(Int.toNat 32)))] λr=>
  Q r)
def iq (a:List Int) (b:Int) (Q:List Int->Int->Prop):Prop:=
 i9 4 (a.length:Int) (a.length:Int)/\
 rng ((a.length:Int)-1)/\
 bf (σ:=Int×Int×(List Int)) (0,((a.length:Int)-1),(bp (a.length:Int) 0)) λ⟨rest,i,out⟩ next1=>
  ak (decide (0<=i))
   (((0:Int)<=i/\i<(a.length:Int))/\
   kC (bits .or .u64 (IntKind.wrap .u64 (rest*2^(Int.toNat 32))) (IntKind.wrap .u64 (at' a i))) λrest1=>
   (IntKind.wrap .u64 b)≠0/\
   ((0:Int)<=i/\i<(out.length:Int))/\
   (IntKind.wrap .u64 b)≠0/\
   rng (i-1)/\
   next1 ((Int.tmod rest1 (IntKind.wrap .u64 b)),(i-1),(bn out i (IntKind.wrap .u32 (IntKind.wrap .u64 (Int.tdiv rest1 (IntKind.wrap .u64 b)))))))
   (bU out λr=>
   Q r (IntKind.wrap .u32 rest))
def gf (x:Int) (Q:Int->Prop):Prop:=
 dc (α:=Int×Int) (λnext2=>
  ak (decide (65536<=x))
   (next2 ((x / 2^(Int.toNat 16)),16))
   (next2 (x,0)))
  λ⟨x1,n⟩=>
  dc (α:=Int×Int) (λnext1=>
   ak (decide (256<=x1))
    (rng (n+8)/\
    next1 ((x1 / 2^(Int.toNat 8)),(n+8)))
    (next1 (x1,n)))
   λ⟨x2,n1⟩=>
   ((0:Int)<=(IntKind.wrap .u8 x2)/\(IntKind.wrap .u8 x2)<(gM.size:Int))/\
   rng (n1+(IntKind.wrap .i64 (ql gM (Int.toNat (IntKind.wrap .u8 x2)))))/\
   kC (n1+(IntKind.wrap .i64 (ql gM (Int.toNat (IntKind.wrap .u8 x2))))) λn2=>
   Q n2
def eH (x:Int) (Q:Int->Prop):Prop:=
 gf x λr=>
 rng (32-r)/\
 Q (32-r)
def eG (a:List Int) (n:Int) (Q:List Int->Prop):Prop:=
 rng ((a.length:Int)+1)/\
 i9 4 ((a.length:Int)+1) ((a.length:Int)+1)/\
 bf (σ:=Int×(List Int)) (0,(bp ((a.length:Int)+1) 0)) λ⟨x,out⟩ next1=>
  ak (decide (x<(a.length:Int)))
   (((0:Int)<=x/\x<(a.length:Int))/\
   ((0:Int)<=n/\n<=64)/\
   kC (IntKind.wrap .u64 ((IntKind.wrap .u64 (at' a x))*2^(Int.toNat n))) λy1=>
   ((0:Int)<=x/\x<(out.length:Int))/\
   ((0:Int)<=x/\x<(out.length:Int))/\
   rng (x+1)/\
   ((0:Int)<=(x+1)/\(x+1)<(out.length:Int))/\
   rng (x+1)/\
   next1 ((x+1),(bn (bn out x (bits .or .u32 (at' out x) (IntKind.wrap .u32 y1))) (x+1) (IntKind.wrap .u32 (y1 / 2^(Int.toNat 32))))))
   (Q out)
def cO (a:List Int) (i:Int) (Q:Int->Prop):Prop:=
 ak (decide (i<(a.length:Int)))
  (((0:Int)<=i/\i<(a.length:Int))/\
  Q (IntKind.wrap .u64 (at' a i)))
  (Q 0)
def lG (u:List Int) (uo:Nat) (ul:Nat) (v:List Int) (n:Int) (Q:List Int->Bool->Prop):Prop:=
 bf (σ:=Int×Int×Int×(List Int)) (0,0,0,u) λ⟨carry,borrow,x,u1⟩ next1=>
  ak (decide (x<(ul:Int)))
   (cO v x λr=>
   kC (IntKind.wrap .u64 (carry+(IntKind.wrap .u64 (n*r)))) λcarry1=>
   ((0:Int)<=x/\x<(ul:Int))/\
   (Int.toNat ((uo:Int)+x))<u1.length/\
   kC (IntKind.wrap .u64 ((IntKind.wrap .u64 ((IntKind.wrap .u64 (at' u1 ((uo:Int)+x)))-(IntKind.wrap .u64 (IntKind.wrap .u32 carry1))))-borrow)) λd=>
   ((0:Int)<=x/\x<(ul:Int))/\
   (Int.toNat ((uo:Int)+x))<u1.length/\
   rng (x+1)/\
   next1 ((carry1 / 2^(Int.toNat 32)),(d / 2^(Int.toNat 63)),(x+1),(bn u1 ((uo:Int)+x) (IntKind.wrap .u32 d))))
   (Q u1 (borrow == 1))
def lH (u:List Int) (uo:Nat) (ul:Nat) (v:List Int) (Q:List Int->Prop):Prop:=
 bf (σ:=Int×Int×(List Int)) (0,0,u) λ⟨carry,x,u1⟩ next1=>
  ak (decide (x<(ul:Int)))
   (((0:Int)<=x/\x<(ul:Int))/\
   (Int.toNat ((uo:Int)+x))<u1.length/\
   cP (cO v x) λr=>
   ((0:Int)<=x/\x<(ul:Int))/\
   (Int.toNat ((uo:Int)+x))<u1.length/\
   kC ((IntKind.wrap .u64 (carry+(IntKind.wrap .u64 ((IntKind.wrap .u64 (at' u1 ((uo:Int)+x)))+r)))) / 2^(Int.toNat 32)) λcarry1=>
   rng (x+1)/\
   next1 (carry1,(x+1),(bn u1 ((uo:Int)+x) (IntKind.wrap .u32 (IntKind.wrap .u64 (carry+(IntKind.wrap .u64 ((IntKind.wrap .u64 (at' u1 ((uo:Int)+x)))+r))))))))
   (Q u1)
def ir (a:List Int) (n:Int) (Q:List Int->Prop):Prop:=
 i9 4 (a.length:Int) (a.length:Int)/\
 bf (σ:=Int×(List Int)) (0,(bp (a.length:Int) 0)) λ⟨x,out⟩ next1=>
  ak (decide (x<(a.length:Int)))
   (cO a x λr=>
   rng (x+1)/\
   cO a (x+1) λr1=>
   ((0:Int)<=n/\n<=64)/\
   ((0:Int)<=x/\x<(out.length:Int))/\
   rng (x+1)/\
   next1 ((x+1),(bn out x (IntKind.wrap .u32 ((bits .or .u64 r (IntKind.wrap .u64 (r1*2^(Int.toNat 32)))) / 2^(Int.toNat n))))))
   (Q out)
def ij (a:List Int) (b:List Int) (Q:List Int->List Int->Option Int->Prop):Prop:=
 bU a λa1=>
 bU b λb1=>
 ak ((b1.length:Int) == 0)
  (Q [] [] (some 8))
  (dv a1 b1 λr=>
  ak (decide (r<0))
   (Q [] a1 none)
   (ak ((b1.length:Int) == 1)
    (((0:Int)<=0/\0<(b1.length:Int))/\
    iq a1 (at' b1 0) λr1 r2=>
    kG (IntKind.wrap .i64 r2) λr3=>
    Q r1 r3 none)
    (rng ((b1.length:Int)-1)/\
    ((0:Int)<=((b1.length:Int)-1)/\((b1.length:Int)-1)<(b1.length:Int))/\
    eH (at' b1 ((b1.length:Int)-1)) λn=>
    eG b1 n λr4=>
    ((0:Int)<=0/\0<=(b1.length:Int)/\(b1.length:Int)<=(r4.length:Int))/\
    kC (cE r4 0 (b1.length:Int)) λv=>
    eG a1 n λu=>
    rng ((v.length:Int)-1)/\
    ((0:Int)<=((v.length:Int)-1)/\((v.length:Int)-1)<(v.length:Int))/\
    rng ((v.length:Int)-2)/\
    ((0:Int)<=((v.length:Int)-2)/\((v.length:Int)-2)<(v.length:Int))/\
    rng ((u.length:Int)-(v.length:Int))/\
    i9 4 ((u.length:Int)-(v.length:Int)) ((u.length:Int)-(v.length:Int))/\
    rng (((Int.toNat ((u.length:Int)-(v.length:Int))):Int)-1)/\
    kC (((Int.toNat ((u.length:Int)-(v.length:Int))):Int)-1) λj=>
    bf (σ:=Int×(List Int)×(List Int)) (j,u,(bp ((u.length:Int)-(v.length:Int)) 0)) λ⟨j1,u1,q⟩ next1=>
     ak (decide (0<=j1))
      (rng (j1+(v.length:Int))/\
      ((0:Int)<=(j1+(v.length:Int))/\(j1+(v.length:Int))<(u1.length:Int))/\
      rng (j1+(v.length:Int))/\
      rng ((j1+(v.length:Int))-1)/\
      ((0:Int)<=((j1+(v.length:Int))-1)/\((j1+(v.length:Int))-1)<(u1.length:Int))/\
      (IntKind.wrap .u64 (at' v ((v.length:Int)-1)))≠0/\
      (IntKind.wrap .u64 (at' v ((v.length:Int)-1)))≠0/\
      dc (α:=Int) (λnext3=>
       bf (σ:=Int×Int) ((IntKind.wrap .u64 (Int.tdiv (bits .or .u64 (IntKind.wrap .u64 ((IntKind.wrap .u64 (at' u1 (j1+(v.length:Int))))*2^(Int.toNat 32))) (IntKind.wrap .u64 (at' u1 ((j1+(v.length:Int))-1)))) (IntKind.wrap .u64 (at' v ((v.length:Int)-1))))),(Int.tmod (bits .or .u64 (IntKind.wrap .u64 ((IntKind.wrap .u64 (at' u1 (j1+(v.length:Int))))*2^(Int.toNat 32))) (IntKind.wrap .u64 (at' u1 ((j1+(v.length:Int))-1)))) (IntKind.wrap .u64 (at' v ((v.length:Int)-1))))) λ⟨guess2,rest⟩ next4=>
        dc (α:=Unit) (λnext5=>
         ak (decide (4294967296<=guess2))
          (next5 ())
          (rng (j1+(v.length:Int))/\
          rng ((j1+(v.length:Int))-2)/\
          ((0:Int)<=((j1+(v.length:Int))-2)/\((j1+(v.length:Int))-2)<(u1.length:Int))/\
          ak (decide ((bits .or .u64 (IntKind.wrap .u64 (rest*2^(Int.toNat 32))) (IntKind.wrap .u64 (at' u1 ((j1+(v.length:Int))-2))))<(IntKind.wrap .u64 (guess2*(IntKind.wrap .u64 (at' v ((v.length:Int)-2)))))))
           (next5 ())
           (next3 guess2)))
         λ_=>
         kC (IntKind.wrap .u64 (rest+(IntKind.wrap .u64 (at' v ((v.length:Int)-1))))) λrest1=>
         ak (decide (4294967296<=rest1))
          (next3 (IntKind.wrap .u64 (guess2-1)))
          (next4 ((IntKind.wrap .u64 (guess2-1)),rest1)))
       λguess=>
       dc (α:=Int×(List Int)) (λnext2=>
        rng (j1+(v.length:Int))/\
        rng ((j1+(v.length:Int))+1)/\
        ((0:Int)<=j1/\j1<=((j1+(v.length:Int))+1)/\((j1+(v.length:Int))+1)<=(u1.length:Int))/\
        lG u1 (0+Int.toNat j1) (Int.toNat ((j1+(v.length:Int))+1)-Int.toNat j1) v guess λu3 r5=>
        u3.length=u1.length/\
        ak r5
         (rng (j1+(v.length:Int))/\
         rng ((j1+(v.length:Int))+1)/\
         ((0:Int)<=j1/\j1<=((j1+(v.length:Int))+1)/\((j1+(v.length:Int))+1)<=(u1.length:Int))/\
         lH u3 (0+Int.toNat j1) (Int.toNat ((j1+(v.length:Int))+1)-Int.toNat j1) v λu4=>
         u4.length=u3.length/\
         next2 ((IntKind.wrap .u64 (guess-1)),u4))
         (next2 (guess,u3)))
        λ⟨guess1,u2⟩=>
        ((0:Int)<=j1/\j1<(q.length:Int))/\
        rng (j1-1)/\
        next1 ((j1-1),u2,(bn q j1 (IntKind.wrap .u32 guess1))))
      (bU q λq1=>
      ir u1 n λr6=>
      bU r6 λr7=>
      Q q1 r7 none))))
def jM (a:List Int) (b:List Int) (Q:List Int->Prop):Prop:=
 bU a λa1=>
 bU b λb1=>
 bf (σ:=(List Int)×(List Int)) (a1,b1) λ⟨a2,b2⟩ next1=>
  ak (decide (0<(b2.length:Int)))
   (ij a2 b2 λ_ r1 _=>
   next1 (b2,r1))
   (Q a2)
def ey (a:List Int) (b:List Int) (Q:List Int->Prop):Prop:=
 rng ((a.length:Int)+(b.length:Int))/\
 i9 4 ((a.length:Int)+(b.length:Int)) ((a.length:Int)+(b.length:Int))/\
 bf (σ:=Int×(List Int)) (0,(bp ((a.length:Int)+(b.length:Int)) 0)) λ⟨x,out⟩ next1=>
  ak (decide (x<(a.length:Int)))
   (((0:Int)<=x/\x<(a.length:Int))/\
   bf (σ:=Int×Int×(List Int)) (0,0,out) λ⟨carry,x1,out1⟩ next2=>
    ak (decide (x1<(b.length:Int)))
     (((0:Int)<=x1/\x1<(b.length:Int))/\
     rng (x+x1)/\
     ((0:Int)<=(x+x1)/\(x+x1)<(out1.length:Int))/\
     kC (IntKind.wrap .u64 (carry+(IntKind.wrap .u64 ((IntKind.wrap .u64 ((IntKind.wrap .u64 (at' a x))*(IntKind.wrap .u64 (at' b x1))))+(IntKind.wrap .u64 (at' out1 (x+x1))))))) λcarry1=>
     rng (x+x1)/\
     ((0:Int)<=(x+x1)/\(x+x1)<(out1.length:Int))/\
     rng (x1+1)/\
     next2 ((carry1 / 2^(Int.toNat 32)),(x1+1),(bn out1 (x+x1) (IntKind.wrap .u32 carry1))))
     (rng (x+(b.length:Int))/\
     ((0:Int)<=(x+(b.length:Int))/\(x+(b.length:Int))<(out1.length:Int))/\
     rng (x+1)/\
     next1 ((x+1),(bn out1 (x+(b.length:Int)) (IntKind.wrap .u32 carry)))))
   (bU out λr=>
   Q r)
def lI (a:List Int) (Q:Int->Prop):Prop:=
 rng ((a.length:Int)-1)/\
 bf (σ:=Int) ((a.length:Int)-1) λi next1=>
  ak (decide (0<=i))
   (((0:Int)<=i/\i<(a.length:Int))/\
   ak ((at' a i) != 0)
    (rng (32*i)/\
    ((0:Int)<=i/\i<(a.length:Int))/\
    gf (at' a i) λr=>
    rng ((32*i)+r)/\
    Q ((32*i)+r))
    (rng (i-1)/\
    next1 (i-1)))
   (Q 0)
def jN (a:List Int) (b:List Int) (Q:List Int->Prop):Prop:=
 rng ((max (a.length:Int) (b.length:Int))+1)/\
 i9 4 ((max (a.length:Int) (b.length:Int))+1) ((max (a.length:Int) (b.length:Int))+1)/\
 bf (σ:=Int×Int×(List Int)) (0,0,(bp ((max (a.length:Int) (b.length:Int))+1) 0)) λ⟨carry,x,out⟩ next1=>
  ak (decide (x<((Int.toNat ((max (a.length:Int) (b.length:Int))+1)):Int)))
   (cO a x λr=>
   cO b x λr1=>
   kC (IntKind.wrap .u64 (carry+(IntKind.wrap .u64 (r+r1)))) λcarry1=>
   ((0:Int)<=x/\x<(out.length:Int))/\
   rng (x+1)/\
   next1 ((carry1 / 2^(Int.toNat 32)),(x+1),(bn out x (IntKind.wrap .u32 carry1))))
   (bU out λr2=>
   Q r2)
def jL (a:List Int) (b:List Int) (Q:List Int->Option Int->Prop):Prop:=
 dv a b λr=>
 ak (decide (r<0))
  (Q [] (some 3))
  (i9 4 (a.length:Int) (a.length:Int)/\
  bf (σ:=Int×Int×(List Int)) (0,0,(bp (a.length:Int) 0)) λ⟨borrow,x,out⟩ next1=>
   ak (decide (x<((Int.toNat (a.length:Int)):Int)))
    (cO a x λr1=>
    cO b x λr2=>
    kC (IntKind.wrap .u64 ((IntKind.wrap .u64 (r1-r2))-borrow)) λd=>
    ((0:Int)<=x/\x<(out.length:Int))/\
    rng (x+1)/\
    next1 ((d / 2^(Int.toNat 63)),(x+1),(bn out x (IntKind.wrap .u32 d))))
    (bU out λr3=>
    Q r3 none))
def i3 (a:List Int) (Q:Int->Prop):Prop:=
 bf (σ:=Int×Int) (0,0) λ⟨n,x⟩ next1=>
  ak (decide (x<(a.length:Int)))
   (((0:Int)<=x/\x<(a.length:Int))/\
   bf (σ:=Int×Int) (n,0) λ⟨n1,x1⟩ next2=>
    ak (decide (x1<32))
     (((0:Int)<=x1/\x1<=32)/\
     ak ((bits .and .u32 ((at' a x) / 2^(Int.toNat x1)) 1) == 1)
      (rng (32*x)/\
      rng ((32*x)+x1)/\
      rng (((32*x)+x1)+1)/\
      rng (x1+1)/\
      next2 ((((32*x)+x1)+1),(x1+1)))
      (rng (x1+1)/\
      next2 (n1,(x1+1))))
     (rng (x+1)/\
     next1 (n1,(x+1))))
   (Q n)
def cQ (a:List Int) (Q:List Int->Prop):Prop:=
 dc (α:=Int) (λnext1=>
  bf (σ:=Int) (a.length:Int) λn1 next2=>
   ak (decide (0<n1))
    (rng (n1-1)/\
    ((0:Int)<=(n1-1)/\(n1-1)<(a.length:Int))/\
    ak ((at' a (n1-1)) == 0)
     (rng (n1-1)/\
     next2 (n1-1))
     (next1 n1))
    (next1 n1))
  λn=>
  ((0:Int)<=0/\0<=n/\n<=(a.length:Int))/\
  (([]++(cE a 0 n)).length*4<=140737488355328)/\
  Q ([]++(cE a 0 n))
def b_ (a:List Int) (i:Int) (Q:Int->Prop):Prop:=
 ak (decide (i<(a.length:Int)))
  (((0:Int)<=i/\i<(a.length:Int))/\
  Q (IntKind.wrap .u64 (at' a i)))
  (Q 0)
def eZ (a:List Int) (b:List Int) (Q:List Int->Prop):Prop:=
 rng ((a.length:Int)+(b.length:Int))/\
 rng (((a.length:Int)+(b.length:Int))+1)/\
 i9 4 (((a.length:Int)+(b.length:Int))+1) (((a.length:Int)+(b.length:Int))+1)/\
 bf (σ:=Int×(List Int)) (0,(bp (((a.length:Int)+(b.length:Int))+1) 0)) λ⟨x,out⟩ next1=>
  ak (decide (x<(a.length:Int)))
   (((0:Int)<=x/\x<(a.length:Int))/\
   rng ((b.length:Int)+1)/\
   bf (σ:=Int×Int×(List Int)) (0,0,out) λ⟨carry,x1,out1⟩ next2=>
    ak (decide (x1<((b.length:Int)+1)))
     (cP (b_ b x1) λr=>
     rng (x+x1)/\
     ((0:Int)<=(x+x1)/\(x+x1)<(out1.length:Int))/\
     rng (x+x1)/\
     ((0:Int)<=(x+x1)/\(x+x1)<(out1.length:Int))/\
     kC ((IntKind.wrap .u64 ((IntKind.wrap .u64 ((IntKind.wrap .u64 ((IntKind.wrap .u64 (at' a x))*r))+(IntKind.wrap .u64 (at' out1 (x+x1)))))+carry)) / 2^(Int.toNat 32)) λcarry1=>
     rng (x1+1)/\
     next2 (carry1,(x1+1),(bn out1 (x+x1) (IntKind.wrap .u32 (IntKind.wrap .u64 ((IntKind.wrap .u64 ((IntKind.wrap .u64 ((IntKind.wrap .u64 (at' a x))*r))+(IntKind.wrap .u64 (at' out1 (x+x1)))))+carry))))))
     (rng (x+1)/\
     next1 ((x+1),out1)))
   (cQ out λr1=>
   Q r1)
def iL (a:List Int) (b:List Int) (Q:Int->Prop):Prop:=
 rng ((max (a.length:Int) (b.length:Int))-1)/\
 kC ((max (a.length:Int) (b.length:Int))-1) λi=>
 bf (σ:=Int) i λi1 next1=>
  ak (decide (0<=i1))
   (b_ a i1 λr=>
   b_ b i1 λr1=>
   ak (decide (r<r1))
    (Q (-1))
    (b_ a i1 λr2=>
    b_ b i1 λr3=>
    ak (decide (r3<r2))
     (Q 1)
     (rng (i1-1)/\
     next1 (i1-1))))
   (Q 0)
def jX (a:List Int) (b:List Int) (Q:List Int->Int->Prop):Prop:=
 iL a b λr=>
 ak (decide (r<0))
  (Q [] 3)
  (bf (σ:=Int×Int×(List Int)) (0,0,[]) λ⟨borrow,x,out⟩ next1=>
   ak (decide (x<(a.length:Int)))
    (b_ a x λr1=>
    b_ b x λr2=>
    kC (IntKind.wrap .u64 ((IntKind.wrap .u64 (r1-r2))-borrow)) λs=>
    ((out++[(IntKind.wrap .u32 s)]).length*4<=140737488355328)/\
    rng (x+1)/\
    next1 ((s / 2^(Int.toNat 63)),(x+1),(out++[(IntKind.wrap .u32 s)])))
    (cQ out λr3=>
    Q r3 0))
def nB (a:List Int) (s:Int) (Q:List Int->Prop):Prop:=
 bf (σ:=Int×Int×(List Int)) (0,0,[]) λ⟨carry,x,out⟩ next1=>
  ak (decide (x<(a.length:Int)))
   (((0:Int)<=x/\x<(a.length:Int))/\
   ((0:Int)<=s/\s<=64)/\
   kC (bits .or .u64 carry (IntKind.wrap .u64 ((IntKind.wrap .u64 (at' a x))*2^(Int.toNat s)))) λcarry1=>
   ((out++[(IntKind.wrap .u32 carry1)]).length*4<=140737488355328)/\
   rng (x+1)/\
   next1 ((carry1 / 2^(Int.toNat 32)),(x+1),(out++[(IntKind.wrap .u32 carry1)])))
   (((out++[(IntKind.wrap .u32 carry)]).length*4<=140737488355328)/\
   cQ (out++[(IntKind.wrap .u32 carry)]) λr=>
   Q r)
def kF (a:List Int) (s:Int) (Q:List Int->Prop):Prop:=
 bf (σ:=Int×(List Int)) (0,[]) λ⟨x,out⟩ next1=>
  ak (decide (x<(a.length:Int)))
   (b_ a x λr=>
   rng (x+1)/\
   b_ a (x+1) λr1=>
   ((0:Int)<=s/\s<=64)/\
   ((out++[(IntKind.wrap .u32 ((bits .or .u64 r (IntKind.wrap .u64 (r1*2^(Int.toNat 32)))) / 2^(Int.toNat s)))]).length*4<=140737488355328)/\
   rng (x+1)/\
   next1 ((x+1),(out++[(IntKind.wrap .u32 ((bits .or .u64 r (IntKind.wrap .u64 (r1*2^(Int.toNat 32)))) / 2^(Int.toNat s)))])))
   (cQ out λr2=>
   Q r2)
def jY (a:List Int) (b:List Int) (Q:List Int->List Int->Int->Prop):Prop:=
 cQ b λb1=>
 ak ((b1.length:Int) == 0)
  (Q [] [] 8)
  (bf (σ:=Int) 0 λs next1=>
   rng ((b1.length:Int)-1)/\
   ((0:Int)<=((b1.length:Int)-1)/\((b1.length:Int)-1)<(b1.length:Int))/\
   ((0:Int)<=s/\s<=32)/\
   ak ((bits .and .u32 (IntKind.wrap .u32 ((at' b1 ((b1.length:Int)-1))*2^(Int.toNat s))) 2147483648) == 0)
    (rng (s+1)/\
    next1 (s+1))
    (nB a s λa1=>
    nB b1 s λb2=>
    i9 4 (a1.length:Int) (a1.length:Int)/\
    rng ((a1.length:Int)-(b1.length:Int))/\
    rng (((a1.length:Int)-(b1.length:Int))+1)/\
    ((0:Int)<=(max 0 (((a1.length:Int)-(b1.length:Int))+1))/\(max 0 (((a1.length:Int)-(b1.length:Int))+1))<=(a1.length:Int)/\(a1.length:Int)<=(a1.length:Int))/\
    (([]++(cE a1 (max 0 (((a1.length:Int)-(b1.length:Int))+1)) (a1.length:Int))).length*4<=140737488355328)/\
    rng ((a1.length:Int)-(b1.length:Int))/\
    bf (σ:=(List Int)×Int×(List Int)) (([]++(cE a1 (max 0 (((a1.length:Int)-(b1.length:Int))+1)) (a1.length:Int))),((a1.length:Int)-(b1.length:Int)),(bp (a1.length:Int) 0)) λ⟨r,i,q⟩ next2=>
     ak (decide (0<=i))
      (((0:Int)<=i/\i<(a1.length:Int))/\
      (([(at' a1 i)]++r).length*4<=140737488355328)/\
      cQ ([(at' a1 i)]++r) λr1=>
      b_ r1 (b1.length:Int) λr2=>
      rng ((b1.length:Int)-1)/\
      b_ r1 ((b1.length:Int)-1) λr3=>
      rng ((b1.length:Int)-1)/\
      b_ b2 ((b1.length:Int)-1) λr4=>
      r4≠0/\
      kC (min (IntKind.wrap .u64 (Int.tdiv (bits .or .u64 (IntKind.wrap .u64 (r2*2^(Int.toNat 32))) r3) r4)) 4294967295) λguess=>
      eZ b2 [(IntKind.wrap .u32 guess)] λp=>
      bf (σ:=Int×(List Int)) (guess,p) λ⟨guess1,p1⟩ next3=>
       iL p1 r1 λr5=>
       ak (decide (0<r5))
        (jX p1 b2 λr6 _=>
        next3 ((IntKind.wrap .u64 (guess1-1)),r6))
        (jX r1 p1 λr8 _=>
        ((0:Int)<=i/\i<(q.length:Int))/\
        rng (i-1)/\
        next2 (r8,(i-1),(bn q i (IntKind.wrap .u32 guess1)))))
      (cQ q λr10=>
      kF r s λr11=>
      Q r10 r11 0)))
def mb (a:List Int) (b:List Int) (Q:List Int->Prop):Prop:=
 cQ a λa1=>
 cQ b λb1=>
 bf (σ:=(List Int)×(List Int)) (a1,b1) λ⟨a2,b2⟩ next1=>
  ak (decide (0<(b2.length:Int)))
   (jY a2 b2 λ_ r1 _=>
   next1 (b2,r1))
   (Q a2)
def mc (a:List Int) (b:List Int) (Q:List Int->Prop):Prop:=
 rng ((max (a.length:Int) (b.length:Int))+1)/\
 bf (σ:=Int×Int×(List Int)) (0,0,[]) λ⟨carry,x,out⟩ next1=>
  ak (decide (x<((max (a.length:Int) (b.length:Int))+1)))
   (b_ a x λr=>
   b_ b x λr1=>
   kC (IntKind.wrap .u64 ((IntKind.wrap .u64 (r+r1))+carry)) λs=>
   ((out++[(IntKind.wrap .u32 s)]).length*4<=140737488355328)/\
   rng (x+1)/\
   next1 ((s / 2^(Int.toNat 32)),(x+1),(out++[(IntKind.wrap .u32 s)])))
   (cQ out λr2=>
   Q r2)
end Go.Gg
namespace Go.Gg
def kM (a:List Int) (b:List Int) (Q:Bool->Prop):Prop:=
 ak ((a.length:Int) != (b.length:Int))
  (Q false)
  (bf (σ:=Int) 0 λx next1=>
   ak (decide (x<(a.length:Int)))
    (((0:Int)<=x/\x<(a.length:Int))/\
    ((0:Int)<=x/\x<(b.length:Int))/\
    ak ((at' a x) != (at' b x))
     (Q false)
     (rng (x+1)/\
     next1 (x+1)))
    (Q true))
def jI (a:GRat) (b:GRat) (Q:Bool->Prop):Prop:=
 ak (a.Neg == b.Neg)
  (kM a.Num b.Num λr=>
  ak r
   (kM a.Den b.Den λr1=>
   Q r1)
   (Q false))
  (Q false)
def mn (a:List GRat) (b:List GRat) (Q:Bool->Prop):Prop:=
 ak ((a.length:Int) != (b.length:Int))
  (Q false)
  (bf (σ:=Int) 0 λx next1=>
   ak (decide (x<(a.length:Int)))
    (((0:Int)<=x/\x<(a.length:Int))/\
    ((0:Int)<=x/\x<(b.length:Int))/\
    cP (jI (at' a x) (at' b x)) λr=>
    ak (!r)
     (Q false)
     (rng (x+1)/\
     next1 (x+1)))
    (Q true))
def i4 (Q:List Int->Prop):Prop:=
 Q [1]
def gP (a:List Int) (Q:Bool->Prop):Prop:=
 ak (decide (0<(a.length:Int)))
  (rng ((a.length:Int)-1)/\
  ((0:Int)<=((a.length:Int)-1)/\((a.length:Int)-1)<(a.length:Int))/\
  Q ((at' a ((a.length:Int)-1)) != 0))
  (Q false)
def gQ (a:GRat) (Q:Bool->Prop):Prop:=
 dc (α:=Bool) (λnext1=>
  ak ((a.Num.length:Int) == 0)
   (next1 ((a.Den.length:Int) == 0))
   (next1 false))
  λx=>
  ak x
   (Q (!a.Neg))
   (gP a.Num λr=>
   ak r
    (gP a.Den λr1=>
    ak r1
     (jM a.Num a.Den λr2=>
     i4 λr3=>
     dv r2 r3 λr4=>
     Q (r4 == 0))
     (Q false))
    (Q false))
def dp (a:GRat) (Q:Bool->List Int->List Int->Prop):Prop:=
 dc (α:=Bool) (λnext1=>
  gQ a λr1=>
  ak (!r1)
   (next1 true)
   (next1 ((a.Num.length:Int) == 0)))
  λx=>
  ak x
   (i4 λr=>
   Q false [] r)
   (Q a.Neg a.Num a.Den)
def cR (neg:Bool) (num:List Int) (den:List Int) (Q:GRat->Prop):Prop:=
 lI num λr=>
 ak (r == 0)
  (Q (⟨false,[],[]⟩:GRat))
  (jM num den λg2=>
  ij num g2 λr1 _ _=>
  ij den g2 λr4 _ _=>
  Q (⟨neg,r1,r4⟩:GRat))
def dD (a:GRat) (b:GRat) (Q:GRat->Prop):Prop:=
 dp a λr r1 r2=>
 dp b λr3 r4 r5=>
 ey r1 r5 λp=>
 ey r4 r2 λq=>
 ey r2 r5 λden=>
 ak (r == r3)
  (jN p q λr6=>
  cR r r6 den λr7=>
  Q r7)
  (dv p q λr8=>
  ak (decide (0<=r8))
   (jL p q λr9 _=>
   cR r r9 den λr11=>
   Q r11)
   (jL q p λr12 _=>
   cR r3 r12 den λr14=>
   Q r14))
def lD (a:GRat) (Q:GRat->Prop):Prop:=
 dp a λr r1 r2=>
 cR (!r) r1 r2 λr3=>
 Q r3
def eF (a:GRat) (b:GRat) (Q:GRat->Prop):Prop:=
 cP (lD b) λr=>
 cP (dD a r) λr1=>
 Q r1
def kf (n:Int) (Q:List Int->Prop):Prop:=
 ak (n == (-9223372036854775808))
  (Q [0,2147483648])
  (rng (-n)/\
  kG (max n (-n)) λr=>
  Q r)
def eu (n:Int) (Q:GRat->Prop):Prop:=
 kf n λr=>
 i4 λr1=>
 cR (decide (n<0)) r r1 λr2=>
 Q r2
def dA (a:GRat) (b:GRat) (Q:GRat->Prop):Prop:=
 dp a λr r1 r2=>
 dp b λr3 r4 r5=>
 ey r1 r4 λr6=>
 ey r2 r5 λr7=>
 cR (r != r3) r6 r7 λr8=>
 Q r8
def io (a:GRat) (Q:Bool->Prop):Prop:=
 gQ a λr=>
 ak r
  (ak (!a.Neg)
   (dv a.Num a.Den λr1=>
   Q (decide (r1<=0)))
   (Q false))
  (Q false)
def eY (neg:Bool) (num:List Int) (den:List Int) (Q:GRat->Int->Prop):Prop:=
 i3 den λr=>
 ak (r == 0)
  (Q (⟨false,[],[]⟩:GRat) 8)
  (i3 num λr1=>
  ak (r1 == 0)
   (Q (⟨false,[],[]⟩:GRat) 0)
   (mb num den λg2=>
   jY num g2 λr2 _ _=>
   jY den g2 λr5 _ _=>
   Q (⟨neg,r2,r5⟩:GRat) 0))
def kD (n:Int) (Q:List Int->Prop):Prop:=
 dc (α:=Int) (λnext1=>
  ak (decide (n<0))
   (kC (IntKind.wrap .u64 (0-(IntKind.wrap .u64 n))) λu1=>
   next1 u1)
   (next1 (IntKind.wrap .u64 n)))
  λu=>
  Q [(IntKind.wrap .u32 u),(IntKind.wrap .u32 (u / 2^(Int.toNat 32)))]
def kE (n:Int) (d:Int) (Q:GRat->Int->Prop):Prop:=
 kD n λr=>
 kD d λr1=>
 eY ((decide (n<0)) != (decide (d<0))) r r1 λr2 r3=>
 Q r2 r3
def iB (n:Int) (Q:GRat->Prop):Prop:=
 kE n 1 λr _=>
 Q r
def ia (a:GRat) (Q:Bool->Prop):Prop:=
 dc (α:=Bool) (λnext1=>
  ak ((a.Num.length:Int) == 0)
   (next1 true)
   (next1 ((a.Den.length:Int) == 0)))
  λx=>
  ak x
   (ak ((a.Num.length:Int) == 0)
    (ak ((a.Den.length:Int) == 0)
     (Q (!a.Neg))
     (Q false))
    (Q false))
   (rng ((a.Num.length:Int)-1)/\
   ((0:Int)<=((a.Num.length:Int)-1)/\((a.Num.length:Int)-1)<(a.Num.length:Int))/\
   ak ((at' a.Num ((a.Num.length:Int)-1)) != 0)
    (rng ((a.Den.length:Int)-1)/\
    ((0:Int)<=((a.Den.length:Int)-1)/\((a.Den.length:Int)-1)<(a.Den.length:Int))/\
    ak ((at' a.Den ((a.Den.length:Int)-1)) != 0)
     (mb a.Num a.Den λr=>
     i3 r λr1=>
     Q (r1 == 1))
     (Q false))
    (Q false))
def ep (a:GRat) (Q:Bool->List Int->List Int->Prop):Prop:=
 dc (α:=Bool) (λnext1=>
  ia a λr=>
  ak (!r)
   (next1 true)
   (next1 ((a.Num.length:Int) == 0)))
  λx=>
  ak x
   (Q false [] [1])
   (Q a.Neg a.Num a.Den)
def gO (a:GRat) (Q:Int->Prop):Prop:=
 ep a λr r1 _=>
 ak ((r1.length:Int) == 0)
  (Q 0)
  (ak r
   (Q (-1))
   (Q 1))
def gy (a:GRat) (b:GRat) (Q:GRat->Prop):Prop:=
 ep a λr r1 r2=>
 ep b λr3 r4 r5=>
 eZ r1 r5 λx=>
 eZ r4 r2 λy1=>
 eZ r2 r5 λden=>
 ak (r == r3)
  (mc x y1 λr6=>
  eY r r6 den λr7 _=>
  Q r7)
  (dc (α:=Bool×(List Int)×(List Int)) (λnext1=>
   iL x y1 λr13=>
   ak (decide (r13<0))
    (next1 (r3,y1,x))
    (next1 (r,x,y1)))
   λ⟨s,x1,y2⟩=>
   jX x1 y2 λr9 _=>
   eY s r9 den λr11 _=>
   Q r11)
def oA (a:GRat) (Q:GRat->Prop):Prop:=
 ep a λr r1 r2=>
 eY (!r) r1 r2 λr3 _=>
 Q r3
def gu (a:GRat) (b:GRat) (Q:GRat->Prop):Prop:=
 cP (oA b) λr=>
 cP (gy a r) λr1=>
 Q r1
def jW (a:GRat) (b:GRat) (Q:Int->Prop):Prop:=
 gu a b λr=>
 gO r λr1=>
 Q r1
def nz (a:GRat) (Q:Bool->Prop):Prop:=
 cP (ia a) λr=>
 ak r
  (cP (gO a) λr1=>
  ak (decide (0<=r1))
   (cP (iB 1) λr2=>
   cP (jW a r2) λr3=>
   Q (decide (r3<=0)))
   (Q false))
  (Q false)
def iJ (a:GRat) (b:GRat) (Q:GRat->Prop):Prop:=
 ep a λr r1 r2=>
 ep b λr3 r4 r5=>
 eZ r1 r4 λr6=>
 eZ r2 r5 λr7=>
 eY (r != r3) r6 r7 λr8 _=>
 Q r8
def nT (err:Option Int) (Q:Int->Prop):Prop:=
 ak (Option.isNone err)
  (Q 0)
  (ak (Option.isSome err)
   (Q (Option.getD err 0))
   (Q (-1)))
end Go.Gg
namespace Go.Gg
def g_ (kind:Int) (n:Int) (Q:Bool->Prop):Prop:=
 ak (kind == 0)
  (Q (n == 0))
  (ak (kind == 1)
   (Q (n == 1))
   (ak (decide (1<=n))
    (Q (decide (n<=16)))
    (Q false)))
def gZ (f:GFormula) (i:Int) (Q:Option Int->Prop):Prop:=
 ((0:Int)<=i/\i<(f.Nodes.length:Int))/\
 dc (α:=Bool) (λnext5=>
  ak (decide ((at' f.Nodes i).Kind<0))
   (next5 true)
   (next5 (decide (5<(at' f.Nodes i).Kind))))
  λx=>
  ak x
   (Q (some 7))
   (g_ ((at' f.Nodes i).Kind) (((at' f.Nodes i).Args).length:Int) λr=>
   ak (!r)
    (Q (some 11))
    (bf (σ:=Int) 0 λx1 next1=>
     ak (decide (x1<(((at' f.Nodes i).Args).length:Int)))
      (((0:Int)<=x1/\x1<(((at' f.Nodes i).Args).length:Int))/\
      dc (α:=Bool) (λnext2=>
       ak (decide ((at' ((at' f.Nodes i).Args) x1)<0))
        (next2 true)
        (rng (f.Vars+i)/\
        next2 (decide ((f.Vars+i)<=(at' ((at' f.Nodes i).Args) x1)))))
       λx2=>
       ak x2
        (Q (some 10))
        (rng (x1+1)/\
        next1 (x1+1)))
      (ak ((at' f.Nodes i).Kind == 0)
       (dc (α:=Bool) (λnext3=>
        ak ((at' f.Nodes i).K != 0)
         (next3 ((at' f.Nodes i).K != 1))
         (next3 false))
        λx3=>
        ak x3
         (Q (some 3))
         (Q none))
       (ak ((at' f.Nodes i).Kind == 4)
        (dc (α:=Bool) (λnext4=>
         ak (decide ((at' f.Nodes i).K<1))
          (next4 true)
          (next4 (decide ((((at' f.Nodes i).Args).length:Int)<(at' f.Nodes i).K))))
         λx4=>
         ak x4
          (Q (some 3))
          (Q none))
        (ak ((at' f.Nodes i).K != 0)
         (Q (some 2))
         (Q none))))))
def kw (f:GFormula) (arg:Int) (Q:Bool->Prop):Prop:=
 ak (decide (0<=f.Vars))
  (ak (decide (0<=arg))
   (ak (decide (arg<f.Vars))
    (Q true)
    (rng (arg-f.Vars)/\
    Q (decide ((arg-f.Vars)<(f.Nodes.length:Int)))))
   (Q false))
  (Q false)
def df (f:GFormula) (Q:Option Int->Prop):Prop:=
 dc (α:=Bool) (λnext2=>
  ak (decide (f.Vars<0))
   (next2 true)
   (next2 (decide (24<f.Vars))))
  λx=>
  ak x
   (Q (some 3))
   (ak (decide (128<(f.Nodes.length:Int)))
    (Q (some 4))
    (bf (σ:=Int) 0 λx1 next1=>
     ak (decide (x1<(f.Nodes.length:Int)))
      (gZ f x1 λe=>
      ak (Option.isSome e)
       (Q e)
       (rng (x1+1)/\
       next1 (x1+1)))
      (kw f f.Top λr=>
      ak (!r)
       (Q (some 10))
       (Q none))))
def ny (f:GFormula) (i:Int) (Q:Int->Prop):Prop:=
 ((0:Int)<=i/\i<(f.Nodes.length:Int))/\
 dc (α:=Int×Int) (λnext2=>
  ak ((at' f.Nodes i).Kind == 0)
   (next2 (0,0))
   (ak ((at' f.Nodes i).Kind == 1)
    (next2 (1,1))
    (ak ((at' f.Nodes i).Kind == 2)
     (next2 (1,16))
     (ak ((at' f.Nodes i).Kind == 3)
      (next2 (1,16))
      (ak ((at' f.Nodes i).Kind == 4)
       (next2 (1,16))
       (ak ((at' f.Nodes i).Kind == 5)
        (next2 (1,16))
        (Q 7)))))))
  λ⟨least,most⟩=>
  ak (decide ((((at' f.Nodes i).Args).length:Int)<least))
   (Q 11)
   (ak (decide (most<(((at' f.Nodes i).Args).length:Int)))
    (Q 11)
    (bf (σ:=Int) 0 λx next1=>
     ak (decide (x<(((at' f.Nodes i).Args).length:Int)))
      (((0:Int)<=x/\x<(((at' f.Nodes i).Args).length:Int))/\
      ak (decide ((at' ((at' f.Nodes i).Args) x)<0))
       (Q 10)
       (rng (f.Vars+i)/\
       ak (decide ((f.Vars+i)<=(at' ((at' f.Nodes i).Args) x)))
        (Q 10)
        (rng (x+1)/\
        next1 (x+1))))
      (ak ((at' f.Nodes i).Kind == 0)
       (ak ((at' f.Nodes i).K != 0)
        (ak ((at' f.Nodes i).K != 1)
         (Q 3)
         (Q 0))
        (Q 0))
       (ak ((at' f.Nodes i).Kind == 4)
        (ak (decide ((at' f.Nodes i).K<1))
         (Q 3)
         (ak (decide ((((at' f.Nodes i).Args).length:Int)<(at' f.Nodes i).K))
          (Q 3)
          (Q 0)))
        (ak ((at' f.Nodes i).K != 0)
         (Q 2)
         (Q 0))))))
def mF (f:GFormula) (arg:Int) (Q:Bool->Prop):Prop:=
 ak (decide (0<=f.Vars))
  (ak (decide (0<=arg))
   (ak (decide (arg<f.Vars))
    (Q true)
    (rng (arg-f.Vars)/\
    Q (decide ((arg-f.Vars)<(f.Nodes.length:Int)))))
   (Q false))
  (Q false)
def mG (f:GFormula) (Q:Int->Prop):Prop:=
 ak (decide (f.Vars<0))
  (Q 3)
  (ak (decide (24<f.Vars))
   (Q 3)
   (ak (decide (128<(f.Nodes.length:Int)))
    (Q 4)
    (bf (σ:=Int) 0 λx next1=>
     ak (decide (x<(f.Nodes.length:Int)))
      (ny f x λe=>
      ak (e != 0)
       (Q e)
       (rng (x+1)/\
       next1 (x+1)))
      (mF f f.Top λr=>
      ak (!r)
       (Q 10)
       (Q 0)))))
def kr (f:GFormula) (failed:Int) (Q:Option Int->Prop):Prop:=
 df f λe=>
 ak (Option.isSome e)
  (Q e)
  (dc (α:=Bool) (λnext1=>
   ak (decide (failed<0))
    (next1 true)
    ((((0:Int)<=f.Vars/\f.Vars<=64)/\rng (1*2^(Int.toNat f.Vars)))/\
    next1 (decide ((1*2^(Int.toNat f.Vars))<=failed))))
   λx=>
   ak x
    (Q (some 3))
    (Q none))
def jB (f:GFormula) (failed:Int) (Q:List Bool->Prop):Prop:=
 rng (f.Vars+(f.Nodes.length:Int))/\
 i9 1 f.Vars (f.Vars+(f.Nodes.length:Int))/\
 bf (σ:=Int×(List Bool)) (0,(bp f.Vars false)) λ⟨x,v⟩ next1=>
  ak (decide (x<((Int.toNat f.Vars):Int)))
   (((0:Int)<=x/\x<=64)/\
   ((0:Int)<=x/\x<(v.length:Int))/\
   rng (x+1)/\
   next1 ((x+1),(bn v x ((bits .and .i64 (failed / 2^(Int.toNat x)) 1) == 1))))
   (bf (σ:=Int×(List Bool)) (0,v) λ⟨x1,v1⟩ next2=>
    ak (decide (x1<(f.Nodes.length:Int)))
     (((0:Int)<=x1/\x1<(f.Nodes.length:Int))/\
     bf (σ:=Int×Int) (0,0) λ⟨n,x2⟩ next3=>
      ak (decide (x2<(((at' f.Nodes x1).Args).length:Int)))
       (((0:Int)<=x2/\x2<(((at' f.Nodes x1).Args).length:Int))/\
       ((0:Int)<=(at' ((at' f.Nodes x1).Args) x2)/\(at' ((at' f.Nodes x1).Args) x2)<(v1.length:Int))/\
       ak (at' v1 (at' ((at' f.Nodes x1).Args) x2))
        (rng (n+1)/\
        rng (x2+1)/\
        next3 ((n+1),(x2+1)))
        (rng (x2+1)/\
        next3 (n,(x2+1))))
       (dc (α:=Bool) (λnext4=>
        ak ((at' f.Nodes x1).Kind == 0)
         (next4 ((at' f.Nodes x1).K == 1))
         (ak ((at' f.Nodes x1).Kind == 1)
          (next4 (n == 0))
          (ak ((at' f.Nodes x1).Kind == 2)
           (next4 (n == (((at' f.Nodes x1).Args).length:Int)))
           (ak ((at' f.Nodes x1).Kind == 3)
            (next4 (decide (0<n)))
            (ak ((at' f.Nodes x1).Kind == 4)
             (next4 (decide ((at' f.Nodes x1).K<=n)))
             (ak ((at' f.Nodes x1).Kind == 5)
              (next4 ((Int.tmod n 2) == 1))
              (next4 false)))))))
        λis=>
        ((v1++[is]).length*1<=140737488355328)/\
        rng (x1+1)/\
        next2 ((x1+1),(v1++[is]))))
     (Q v1))
def ku (f:GFormula) (failed:Int) (Q:Bool->Option Int->Prop):Prop:=
 kr f failed λe=>
 ak (Option.isSome e)
  (Q false e)
  (cP (jB f failed) λr=>
  ((0:Int)<=f.Top/\f.Top<(r.length:Int))/\
  Q (at' r f.Top) none)
def iw (f:GFormula) (Q:List Bool->Prop):Prop:=
 rng (f.Vars+(f.Nodes.length:Int))/\
 i9 1 (f.Vars+(f.Nodes.length:Int)) (f.Vars+(f.Nodes.length:Int))/\
 ((0:Int)<=f.Top/\f.Top<((Int.toNat (f.Vars+(f.Nodes.length:Int))):Int))/\
 rng ((f.Nodes.length:Int)-1)/\
 bf (σ:=Int×(List Bool)) (((f.Nodes.length:Int)-1),(bn (bp (f.Vars+(f.Nodes.length:Int)) false) f.Top true)) λ⟨i,mark⟩ next1=>
  ak (decide (0<=i))
   (rng (f.Vars+i)/\
   ((0:Int)<=(f.Vars+i)/\(f.Vars+i)<(mark.length:Int))/\
   ak (at' mark (f.Vars+i))
    (((0:Int)<=i/\i<(f.Nodes.length:Int))/\
    bf (σ:=Int×(List Bool)) (0,mark) λ⟨x,mark1⟩ next2=>
     ak (decide (x<(((at' f.Nodes i).Args).length:Int)))
      (((0:Int)<=x/\x<(((at' f.Nodes i).Args).length:Int))/\
      ((0:Int)<=(at' ((at' f.Nodes i).Args) x)/\(at' ((at' f.Nodes i).Args) x)<(mark1.length:Int))/\
      rng (x+1)/\
      next2 ((x+1),(bn mark1 (at' ((at' f.Nodes i).Args) x) true)))
      (rng (i-1)/\
      next1 ((i-1),mark1)))
    (rng (i-1)/\
    next1 ((i-1),mark)))
   (Q mark)
def lK (f:GFormula) (Q:GFormula->Option Int->Prop):Prop:=
 df f λe=>
 ak (Option.isSome e)
  (Q (⟨0,[],0⟩:GFormula) e)
  (rng (f.Vars+(f.Nodes.length:Int))/\
  i9 8 (f.Vars+(f.Nodes.length:Int)) (f.Vars+(f.Nodes.length:Int))/\
  bf (σ:=Int×(List Int)) (0,(bp (f.Vars+(f.Nodes.length:Int)) 0)) λ⟨x,to⟩ next1=>
   ak (decide (x<f.Vars))
    (((0:Int)<=x/\x<(to.length:Int))/\
    rng (x+1)/\
    next1 ((x+1),(bn to x x)))
    (cP (iw f) λr=>
    ((0:Int)<=f.Vars/\f.Vars<=(r.length:Int)/\(r.length:Int)<=(r.length:Int))/\
    bf (σ:=Int×(List Int)×(List GNode)) (0,to,[]) λ⟨x1,to1,x2⟩ next2=>
     ak (decide (x1<((cE r f.Vars (r.length:Int)).length:Int)))
      (((0:Int)<=x1/\x1<((cE r f.Vars (r.length:Int)).length:Int))/\
      ak (!(at' (cE r f.Vars (r.length:Int)) x1))
       (rng (x1+1)/\
       next2 ((x1+1),to1,x2))
       (((0:Int)<=x1/\x1<(f.Nodes.length:Int))/\
       bf (σ:=Int×(List Int)) (0,[]) λ⟨x3,x4⟩ next3=>
        ak (decide (x3<(((at' f.Nodes x1).Args).length:Int)))
         (((0:Int)<=x3/\x3<(((at' f.Nodes x1).Args).length:Int))/\
         ((0:Int)<=(at' ((at' f.Nodes x1).Args) x3)/\(at' ((at' f.Nodes x1).Args) x3)<(to1.length:Int))/\
         ((x4++[(at' to1 (at' ((at' f.Nodes x1).Args) x3))]).length*8<=140737488355328)/\
         rng (x3+1)/\
         next3 ((x3+1),(x4++[(at' to1 (at' ((at' f.Nodes x1).Args) x3))])))
         (rng (f.Vars+x1)/\
         rng (f.Vars+(x2.length:Int))/\
         ((0:Int)<=(f.Vars+x1)/\(f.Vars+x1)<(to1.length:Int))/\
         ((x2++[(⟨(at' f.Nodes x1).Kind,(at' f.Nodes x1).K,x4⟩:GNode)]).length*40<=140737488355328)/\
         rng (x1+1)/\
         next2 ((x1+1),(bn to1 (f.Vars+x1) (f.Vars+(x2.length:Int))),(x2++[(⟨(at' f.Nodes x1).Kind,(at' f.Nodes x1).K,x4⟩:GNode)])))))
      (((0:Int)<=f.Top/\f.Top<(to1.length:Int))/\
      Q (⟨f.Vars,x2,(at' to1 f.Top)⟩:GFormula) none)))
def lL (f:GFormula) (Q:Int->Int->Option Int->Prop):Prop:=
 df f λe=>
 ak (Option.isSome e)
  (Q 0 0 e)
  (cP (iw f) λr=>
  ((0:Int)<=f.Vars/\f.Vars<=(r.length:Int)/\(r.length:Int)<=(r.length:Int))/\
  bf (σ:=Int×Int×Int) (0,0,0) λ⟨nodes,args,x⟩ next1=>
   ak (decide (x<((cE r f.Vars (r.length:Int)).length:Int)))
    (((0:Int)<=x/\x<((cE r f.Vars (r.length:Int)).length:Int))/\
    ak (at' (cE r f.Vars (r.length:Int)) x)
     (rng (nodes+1)/\
     ((0:Int)<=x/\x<(f.Nodes.length:Int))/\
     rng (args+(((at' f.Nodes x).Args).length:Int))/\
     kC (args+(((at' f.Nodes x).Args).length:Int)) λargs1=>
     rng (x+1)/\
     next1 ((nodes+1),args1,(x+1)))
     (rng (x+1)/\
     next1 (nodes,args,(x+1))))
    (Q nodes args none))
def p8 (f:GFormula) (values:List Bool) (failed:Int) (arg:Int) (Q:Bool->Prop):Prop:=
 ak (decide (arg<f.Vars))
  (((0:Int)<=arg/\arg<=64)/\
  Q ((bits .and .i64 (failed / 2^(Int.toNat arg)) 1) == 1))
  (rng (arg-f.Vars)/\
  ((0:Int)<=(arg-f.Vars)/\(arg-f.Vars)<(values.length:Int))/\
  Q (at' values (arg-f.Vars)))
def ls (f:GFormula) (values:List Bool) (valueso:Nat) (valuesl:Nat) (failed:Int) (arg:Int) (Q:List Bool->Bool->Prop):Prop:=
 ak (decide (arg<f.Vars))
  (((0:Int)<=arg/\arg<=64)/\
  Q values ((bits .and .i64 (failed / 2^(Int.toNat arg)) 1) == 1))
  (rng (arg-f.Vars)/\
  ((0:Int)<=(arg-f.Vars)/\(arg-f.Vars)<(valuesl:Int))/\
  (Int.toNat ((valueso:Int)+(arg-f.Vars)))<values.length/\
  Q values (at' values ((valueso:Int)+(arg-f.Vars))))
def lq (f:GFormula) (failed:Int) (Q:List Bool->Prop):Prop:=
 i9 1 (f.Nodes.length:Int) (f.Nodes.length:Int)/\
 bf (σ:=Int×(List Bool)) (0,(bp (f.Nodes.length:Int) false)) λ⟨x,values⟩ next1=>
  ak (decide (x<(f.Nodes.length:Int)))
   (((0:Int)<=x/\x<(f.Nodes.length:Int))/\
   bf (σ:=Int×Int×(List Bool)) (0,0,values) λ⟨n,x1,values1⟩ next2=>
    ak (decide (x1<(((at' f.Nodes x).Args).length:Int)))
     (((0:Int)<=x1/\x1<(((at' f.Nodes x).Args).length:Int))/\
     ls f values1 0 values1.length failed (at' ((at' f.Nodes x).Args) x1) λvalues2 r=>
     values2.length=values1.length/\
     ak r
      (rng (n+1)/\
      rng (x1+1)/\
      next2 ((n+1),(x1+1),values2))
      (rng (x1+1)/\
      next2 (n,(x1+1),values2)))
     (ak ((at' f.Nodes x).Kind == 0)
      (((0:Int)<=x/\x<(values1.length:Int))/\
      rng (x+1)/\
      next1 ((x+1),(bn values1 x ((at' f.Nodes x).K == 1))))
      (ak ((at' f.Nodes x).Kind == 1)
       (((0:Int)<=x/\x<(values1.length:Int))/\
       rng (x+1)/\
       next1 ((x+1),(bn values1 x (n == 0))))
       (ak ((at' f.Nodes x).Kind == 2)
        (((0:Int)<=x/\x<(values1.length:Int))/\
        rng (x+1)/\
        next1 ((x+1),(bn values1 x (n == (((at' f.Nodes x).Args).length:Int)))))
        (ak ((at' f.Nodes x).Kind == 3)
         (((0:Int)<=x/\x<(values1.length:Int))/\
         rng (x+1)/\
         next1 ((x+1),(bn values1 x (decide (0<n)))))
         (ak ((at' f.Nodes x).Kind == 4)
          (((0:Int)<=x/\x<(values1.length:Int))/\
          rng (x+1)/\
          next1 ((x+1),(bn values1 x (decide ((at' f.Nodes x).K<=n)))))
          (((0:Int)<=x/\x<(values1.length:Int))/\
          rng (x+1)/\
          next1 ((x+1),(bn values1 x ((Int.tmod n 2) == 1))))))))))
   (Q values)
def mD (f:GFormula) (failed:Int) (Q:Bool->Prop):Prop:=
 cP (lq f failed) λr=>
 cP (p8 f r failed f.Top) λr1=>
 Q r1
end Go.Gg
namespace Go.Gg
def cA:Nat->Int->Int->(List GNode)->Int->(List Int)->(List Bool)->(List Int->List Bool->Prop)->Prop
 | 0,_,_,_,_,_,_,_=>False
 | fu+1,arg,Formula,w,w1,events,seen,Q=>
  ((0:Int)<=arg/\arg<(seen.length:Int))/\
  ak (at' seen arg)
   (Q events seen)
   (((0:Int)<=arg/\arg<(seen.length:Int))/\
   ak (decide (arg<Formula))
    (((events++[arg]).length*8<=140737488355328)/\
    Q (events++[arg]) (bn seen arg true))
    (rng (arg-Formula)/\
    ((0:Int)<=(arg-Formula)/\(arg-Formula)<(w.length:Int))/\
    bf (σ:=Int×(List Int)×(List Bool)) (0,events,(bn seen arg true)) λ⟨x,x1,x2⟩ next1=>
     ak (decide (x<(((at' w (arg-Formula)).Args).length:Int)))
      (((0:Int)<=x/\x<(((at' w (arg-Formula)).Args).length:Int))/\
      cA fu (at' ((at' w (arg-Formula)).Args) x) Formula w w1 x1 x2 λu u1=>
      u1.length=x2.length/\
      rng (x+1)/\
      next1 ((x+1),u,u1))
      (Q x1 x2)))
def mM (f:GFormula) (Q:List Int->List Bool->Prop):Prop:=
 rng (f.Vars+(f.Nodes.length:Int))/\
 i9 1 (f.Vars+(f.Nodes.length:Int)) (f.Vars+(f.Nodes.length:Int))/\
 ∃fu,cA fu f.Top f.Vars f.Nodes f.Top ([]:List Int) (bp (f.Vars+(f.Nodes.length:Int)) false) λu u1=>
 u1.length=(bp (f.Vars+(f.Nodes.length:Int)) false).length/\
 bf (σ:=Int×(List Int)) (0,u) λ⟨x,x1⟩ next1=>
  ak (decide (x<f.Vars))
   (((0:Int)<=x/\x<(u1.length:Int))/\
   ak (!(at' u1 x))
    (((x1++[x]).length*8<=140737488355328)/\
    rng (x+1)/\
    next1 ((x+1),(x1++[x])))
    (rng (x+1)/\
    next1 ((x+1),x1)))
   (Q x1 u1)
def mN (f:GFormula) (Q:List Int->Option Int->Prop):Prop:=
 df f λerr=>
 ak (Option.isSome err)
  (Q [] err)
  (mM f λr _=>
  Q r none)
def mO (o:List Int) (vars:Int) (Q:Option Int->Prop):Prop:=
 dc (α:=Bool) (λnext3=>
  ak (decide (vars<0))
   (next3 true)
   (next3 (decide (24<vars))))
  λx=>
  ak x
   (Q (some 3))
   (ak ((o.length:Int) != vars)
    (Q (some 11))
    (i9 1 vars vars/\
    bf (σ:=Int×(List Bool)) (0,(bp vars false)) λ⟨x1,seen⟩ next1=>
     ak (decide (x1<(o.length:Int)))
      (((0:Int)<=x1/\x1<(o.length:Int))/\
      dc (α:=Bool) (λnext2=>
       ak (decide ((at' o x1)<0))
        (next2 true)
        (next2 (decide (vars<=(at' o x1)))))
       λx2=>
       ak x2
        (Q (some 3))
        (((0:Int)<=(at' o x1)/\(at' o x1)<(seen.length:Int))/\
        ak (at' seen (at' o x1))
         (Q (some 6))
         (((0:Int)<=(at' o x1)/\(at' o x1)<(seen.length:Int))/\
         rng (x1+1)/\
         next1 ((x1+1),(bn seen (at' o x1) true)))))
      (Q none)))
end Go.Gg
namespace Go.Gg
def jf (order:List Int) (Q:List Int->List Int->GMap Int->GMap Int->Prop):Prop:=
 (order.length*8<=140737488355328)/\
 i9 8 (order.length:Int) (order.length:Int)/\
 bf (σ:=Int×(List Int)) (0,(bp (order.length:Int) 0)) λ⟨x,x1⟩ next1=>
  ak (decide (x<(order.length:Int)))
   (((0:Int)<=x/\x<(order.length:Int))/\
   ((0:Int)<=(at' order x)/\(at' order x)<(x1.length:Int))/\
   rng (x+1)/\
   next1 ((x+1),(bn x1 (at' order x) x)))
   (Q order x1 (iQ:GMap Int) (iQ:GMap Int))
def cG (v:Int) (lo:Int) (hi:Int) (_order:List Int) (_place:List Int) (nodes:List GDNode) (unique:GMap Int) (_memo:GMap Int) (Q:List GDNode->GMap Int->Int->Prop):Prop:=
 ak (lo == hi)
  (Q nodes unique lo)
  (ak (!(Option.isSome (cH unique [v,lo,hi])))
   (rng (2+(nodes.length:Int))/\
   ((nodes++[(⟨v,lo,hi⟩:GDNode)]).length*24<=140737488355328)/\
   Q (nodes++[(⟨v,lo,hi⟩:GDNode)]) (mput unique [v,lo,hi] (2+(nodes.length:Int))) (2+(nodes.length:Int)))
   (Q nodes unique (Option.getD (cH unique [v,lo,hi]) 0)))
def c6 (i:Int) (order:List Int) (place:List Int) (nodes:List GDNode) (unique:GMap Int) (memo:GMap Int) (Q:List GDNode->GMap Int->Int->Prop):Prop:=
 cG i 0 1 order place nodes unique memo λu u1 r=>
 Q u u1 r
def bw (r:Int) (order:List Int) (place:List Int) (nodes:List GDNode) (_unique:GMap Int) (_memo:GMap Int) (Q:Int->Prop):Prop:=
 ak (decide (r<2))
  (Q (order.length:Int))
  (rng (r-2)/\
  ((0:Int)<=(r-2)/\(r-2)<(nodes.length:Int))/\
  ((0:Int)<=(at' nodes (r-2)).Var/\(at' nodes (r-2)).Var<(place.length:Int))/\
  Q (at' place ((at' nodes (r-2)).Var)))
def bK (r:Int) (level:Int) (order:List Int) (place:List Int) (nodes:List GDNode) (unique:GMap Int) (memo:GMap Int) (Q:Int->Int->Prop):Prop:=
 bw r order place nodes unique memo λr1=>
 ak (r1 != level)
  (Q r r)
  (rng (r-2)/\
  ((0:Int)<=(r-2)/\(r-2)<(nodes.length:Int))/\
  Q ((at' nodes (r-2)).Lo) ((at' nodes (r-2)).Hi))
def aD:Nat->Int->Int->Int->(List Int)->(List Int)->(List GDNode)->(GMap Int)->(GMap Int)->(List GDNode->GMap Int->GMap Int->Int->Prop)->Prop
 | 0,_,_,_,_,_,_,_,_,_=>False
 | fu+1,c,a,b,order,place,nodes,unique,memo,Q=>
  dc (α:=Unit) (λnext1=>
   dc (α:=Bool) (λnext2=>
    ak (c == 1)
     (next2 true)
     (next2 (a == b)))
    λx=>
    ak x
     (Q nodes unique memo a)
     (ak (c == 0)
      (Q nodes unique memo b)
      (ak (a == 1)
       (ak (b == 0)
        (Q nodes unique memo c)
        (next1 ()))
       (next1 ()))))
   λ_=>
   ak (Option.isSome (cH memo [c,a,b]))
    (Q nodes unique memo (Option.getD (cH memo [c,a,b]) 0))
    (bw c order place nodes unique memo λr=>
    bw a order place nodes unique memo λr1=>
    bw b order place nodes unique memo λr2=>
    bK c (min (min r r1) r2) order place nodes unique memo λr3 r4=>
    bK a (min (min r r1) r2) order place nodes unique memo λr5 r6=>
    bK b (min (min r r1) r2) order place nodes unique memo λr7 r8=>
    aD fu r3 r5 r7 order place nodes unique memo λu u1 u2 lo=>
    aD fu r4 r6 r8 order place u u1 u2 λu3 u4 u5 hi=>
    ((0:Int)<=(min (min r r1) r2)/\(min (min r r1) r2)<(order.length:Int))/\
    cG (at' order (min (min r r1) r2)) lo hi order place u3 u4 u5 λu6 u7 r9=>
    Q u6 u7 (mput u5 [c,a,b] r9) r9)
def dx (a:Int) (order:List Int) (place:List Int) (nodes:List GDNode) (unique:GMap Int) (memo:GMap Int) (Q:List GDNode->GMap Int->GMap Int->Int->Prop):Prop:=
 ∃fu,aD fu a 0 1 order place nodes unique memo λu u1 u2 r=>
 Q u u1 u2 r
def dz (a:Int) (b:Int) (order:List Int) (place:List Int) (nodes:List GDNode) (unique:GMap Int) (memo:GMap Int) (Q:List GDNode->GMap Int->GMap Int->Int->Prop):Prop:=
 ∃fu,aD fu a b 0 order place nodes unique memo λu u1 u2 r=>
 Q u u1 u2 r
def dU (a:Int) (b:Int) (order:List Int) (place:List Int) (nodes:List GDNode) (unique:GMap Int) (memo:GMap Int) (Q:List GDNode->GMap Int->GMap Int->Int->Prop):Prop:=
 ∃fu,aD fu a 1 b order place nodes unique memo λu u1 u2 r=>
 Q u u1 u2 r
def dw (a:Int) (b:Int) (order:List Int) (place:List Int) (nodes:List GDNode) (unique:GMap Int) (memo:GMap Int) (Q:List GDNode->GMap Int->GMap Int->Int->Prop):Prop:=
 dx b order place nodes unique memo λu u1 u2 r=>
 ∃fu,aD fu a r b order place u u1 u2 λu3 u4 u5 r1=>
 Q u3 u4 u5 r1
def aN:Nat->Int->Int->(GMap Bool)->(List Int)->(List Int)->(List GDNode)->(GMap Int)->(GMap Int)->(GMap Bool->Prop)->Prop
 | 0,_,_,_,_,_,_,_,_,_=>False
 | fu+1,r,u,u1,order,place,nodes,unique,memo,Q=>
  ak (decide (r<2))
   (Q u1)
   (ak (Option.getD (cH u1 [r]) false)
    (Q u1)
    (ak (decide (u<((GMap.n u1:Nat):Int)))
     (Q u1)
     (rng (r-2)/\
     ((0:Int)<=(r-2)/\(r-2)<(nodes.length:Int))/\
     ∃u2,(aN fu ((at' nodes (r-2)).Lo) u (mput u1 [r] true) order place nodes unique memo λy1=>y1=u2)/\
     rng (r-2)/\
     ((0:Int)<=(r-2)/\(r-2)<(nodes.length:Int))/\
     ∃u3,(aN fu ((at' nodes (r-2)).Hi) u u2 order place nodes unique memo λy2=>y2=u3)/\
     Q u3)))
def cb (root:Int) (most:Int) (order:List Int) (place:List Int) (nodes:List GDNode) (unique:GMap Int) (memo:GMap Int) (Q:Bool->Prop):Prop:=
 ∃fu,aN fu root most (iQ:GMap Bool) order place nodes unique memo λu=>
 Q (decide (((GMap.n u:Nat):Int)<=most))
def bm:Nat->Int->Int->(GMap Int)->(List Int)->(List GDNode)->(List Int)->(List Int)->(List GDNode)->(GMap Int)->(GMap Int)->(GMap Int->List GDNode->Int->Prop)->Prop
 | 0,_,_,_,_,_,_,_,_,_,_,_=>False
 | fu+1,r,Root,u,Order,Nodes,order,place,nodes,unique,memo,Q=>
  ak (Option.isSome (cH u [r]))
   (Q u Nodes (Option.getD (cH u [r]) 0))
   (rng (r-2)/\
   ((0:Int)<=(r-2)/\(r-2)<(nodes.length:Int))/\
   bm fu ((at' nodes (r-2)).Lo) Root u Order Nodes order place nodes unique memo λu1 u2 lo=>
   bm fu ((at' nodes (r-2)).Hi) Root u1 Order u2 order place nodes unique memo λu3 u4 hi1=>
   ((u4++[(⟨(at' nodes (r-2)).Var,lo,hi1⟩:GDNode)]).length*24<=140737488355328)/\
   rng (1+((u4++[(⟨(at' nodes (r-2)).Var,lo,hi1⟩:GDNode)]).length:Int))/\
   Q (mput u3 [r] (1+((u4++[(⟨(at' nodes (r-2)).Var,lo,hi1⟩:GDNode)]).length:Int))) (u4++[(⟨(at' nodes (r-2)).Var,lo,hi1⟩:GDNode)]) (Option.getD (cH (mput u3 [r] (1+((u4++[(⟨(at' nodes (r-2)).Var,lo,hi1⟩:GDNode)]).length:Int))) [r]) 0))
def c5 (root:Int) (order:List Int) (place:List Int) (nodes:List GDNode) (unique:GMap Int) (memo:GMap Int) (Q:GDiagram->Prop):Prop:=
 (order.length*8<=140737488355328)/\
 ∃fu,bm fu root 0 (mput (mput (iQ:GMap Int) [0] 0) [1] 1) order ([]:List GDNode) order place nodes unique memo λ_ u1 r=>
 Q (⟨order,u1,r⟩:GDiagram)
end Go.Gg
namespace Go.Gg
def ml (refs:List Int) (first:Int) (order:List Int) (place:List Int) (nodes:List GDNode) (unique:GMap Int) (memo:GMap Int) (Q:List GDNode->GMap Int->GMap Int->Int->Prop):Prop:=
 bf (σ:=Int×Int×(List GDNode)×(GMap Int)×(GMap Int)) (first,0,nodes,unique,memo) λ⟨first1,x,x1,x2,x3⟩ next1=>
  ak (decide (x<(refs.length:Int)))
   (((0:Int)<=x/\x<(refs.length:Int))/\
   dz first1 (at' refs x) order place x1 x2 x3 λu u1 u2 first2=>
   rng (x+1)/\
   next1 (first2,(x+1),u,u1,u2))
   (Q x1 x2 x3 first1)
def lO (refs:List Int) (first:Int) (order:List Int) (place:List Int) (nodes:List GDNode) (unique:GMap Int) (memo:GMap Int) (Q:List GDNode->GMap Int->GMap Int->Int->Prop):Prop:=
 bf (σ:=Int×Int×(List GDNode)×(GMap Int)×(GMap Int)) (first,0,nodes,unique,memo) λ⟨first1,x,x1,x2,x3⟩ next1=>
  ak (decide (x<(refs.length:Int)))
   (((0:Int)<=x/\x<(refs.length:Int))/\
   dU first1 (at' refs x) order place x1 x2 x3 λu u1 u2 first2=>
   rng (x+1)/\
   next1 (first2,(x+1),u,u1,u2))
   (Q x1 x2 x3 first1)
def lN (refs:List Int) (first:Int) (order:List Int) (place:List Int) (nodes:List GDNode) (unique:GMap Int) (memo:GMap Int) (Q:List GDNode->GMap Int->GMap Int->Int->Prop):Prop:=
 bf (σ:=Int×Int×(List GDNode)×(GMap Int)×(GMap Int)) (first,0,nodes,unique,memo) λ⟨first1,x,x1,x2,x3⟩ next1=>
  ak (decide (x<(refs.length:Int)))
   (((0:Int)<=x/\x<(refs.length:Int))/\
   dw first1 (at' refs x) order place x1 x2 x3 λu u1 u2 first2=>
   rng (x+1)/\
   next1 (first2,(x+1),u,u1,u2))
   (Q x1 x2 x3 first1)
def jc (refs:List Int) (k6:Int) (order:List Int) (place:List Int) (nodes:List GDNode) (unique:GMap Int) (memo:GMap Int) (Q:List GDNode->GMap Int->GMap Int->Int->Prop):Prop:=
 rng (k6+1)/\
 i9 8 (k6+1) (k6+1)/\
 ((0:Int)<=0/\0<((Int.toNat (k6+1)):Int))/\
 bf (σ:=Int×(List Int)×(List GDNode)×(GMap Int)×(GMap Int)) (0,(bn (bp (k6+1) 0) 0 1),nodes,unique,memo) λ⟨x,need,x1,x2,x3⟩ next1=>
  ak (decide (x<(refs.length:Int)))
   (((0:Int)<=x/\x<(refs.length:Int))/\
   bf (σ:=Int×(List Int)×(List GDNode)×(GMap Int)×(GMap Int)) (k6,need,x1,x2,x3) λ⟨j,need1,x4,x5,x6⟩ next2=>
    ak (decide (0<j))
     (rng (j-1)/\
     ((0:Int)<=(j-1)/\(j-1)<(need1.length:Int))/\
     ((0:Int)<=j/\j<(need1.length:Int))/\
     ∃u u1 u2 r,(∃fu,aD fu (at' refs x) (at' need1 (j-1)) (at' need1 j) order place x4 x5 x6 λy1 y2 y3 y4=>y1=u/\y2=u1/\y3=u2/\y4=r)/\
     ((0:Int)<=j/\j<(need1.length:Int))/\
     rng (j-1)/\
     next2 ((j-1),(bn need1 j r),u,u1,u2))
     (rng (x+1)/\
     next1 ((x+1),need1,x4,x5,x6)))
   (((0:Int)<=k6/\k6<(need.length:Int))/\
   Q x1 x2 x3 (at' need k6))
def gg (x:GNode) (refs:List Int) (order:List Int) (place:List Int) (nodes:List GDNode) (unique:GMap Int) (memo:GMap Int) (Q:List GDNode->GMap Int->GMap Int->Int->Prop):Prop:=
 ak (x.Kind == 0)
  (Q nodes unique memo x.K)
  (ak (x.Kind == 1)
   (((0:Int)<=0/\0<(refs.length:Int))/\
   dx (at' refs 0) order place nodes unique memo λu u1 u2 r=>
   Q u u1 u2 r)
   (ak (x.Kind == 2)
    (ml refs 1 order place nodes unique memo λu3 u4 u5 r1=>
    Q u3 u4 u5 r1)
    (ak (x.Kind == 3)
     (lO refs 0 order place nodes unique memo λu6 u7 u8 r2=>
     Q u6 u7 u8 r2)
     (ak (x.Kind == 5)
      (lN refs 0 order place nodes unique memo λu9 u10 u11 r3=>
      Q u9 u10 u11 r3)
      (jc refs x.K order place nodes unique memo λu12 u13 u14 r4=>
      Q u12 u13 u14 r4)))))
def iz (f:GFormula) (o:List Int) (Q:GDiagram->Option Int->Prop):Prop:=
 lL f λr _ r2=>
 ak (Option.isSome r2)
  (Q (⟨[],[],0⟩:GDiagram) r2)
  (mO o f.Vars λerr=>
  ak (Option.isSome err)
   (Q (⟨[],[],0⟩:GDiagram) err)
   (dc (α:=GFormula) (λnext4=>
    ak (decide (0<r))
     (lK f λr7 r8=>
     ak (Option.isSome r8)
      (Q (⟨[],[],0⟩:GDiagram) r8)
      (next4 r7))
     (next4 (⟨f.Vars,[],f.Top⟩:GFormula)))
    λx=>
    jf o λorder place unique memo=>
    rng (x.Vars+(x.Nodes.length:Int))/\
    i9 8 (x.Vars+(x.Nodes.length:Int)) (x.Vars+(x.Nodes.length:Int))/\
    bf (σ:=Int×(List Int)×(GMap Int)×(List GDNode)) (0,(bp (x.Vars+(x.Nodes.length:Int)) 0),unique,[]) λ⟨x1,refs,x2,x3⟩ next1=>
     ak (decide (x1<x.Vars))
      (c6 x1 order place x3 x2 memo λu u1 r3=>
      ((0:Int)<=x1/\x1<(refs.length:Int))/\
      rng (x1+1)/\
      next1 ((x1+1),(bn refs x1 r3),u1,u))
      (bf (σ:=Int×(List Int)×(GMap Int)×(GMap Int)×(List GDNode)) (0,refs,x2,memo,x3) λ⟨x4,refs1,x5,x6,x7⟩ next2=>
       ak (decide (x4<(x.Nodes.length:Int)))
        (((0:Int)<=x4/\x4<(x.Nodes.length:Int))/\
        bf (σ:=Int×(List Int)) (0,[]) λ⟨x8,args⟩ next3=>
         ak (decide (x8<(((at' x.Nodes x4).Args).length:Int)))
          (((0:Int)<=x8/\x8<(((at' x.Nodes x4).Args).length:Int))/\
          ((0:Int)<=(at' ((at' x.Nodes x4).Args) x8)/\(at' ((at' x.Nodes x4).Args) x8)<(refs1.length:Int))/\
          ((args++[(at' refs1 (at' ((at' x.Nodes x4).Args) x8))]).length*8<=140737488355328)/\
          rng (x8+1)/\
          next3 ((x8+1),(args++[(at' refs1 (at' ((at' x.Nodes x4).Args) x8))])))
          (rng (x.Vars+x4)/\
          ∃u2 u3 u4 r4,(gg (at' x.Nodes x4) args order place x7 x5 x6 λy1 y2 y3 y4=>y1=u2/\y2=u3/\y3=u4/\y4=r4)/\
          ((0:Int)<=(x.Vars+x4)/\(x.Vars+x4)<(refs1.length:Int))/\
          rng (x.Vars+x4)/\
          ((0:Int)<=(x.Vars+x4)/\(x.Vars+x4)<(refs1.length:Int))/\
          cb (at' (bn refs1 (x.Vars+x4) r4) (x.Vars+x4)) 4096 order place u2 u3 u4 λr5=>
          ak (!r5)
           (Q (⟨[],[],0⟩:GDiagram) (some 4))
           (rng (x4+1)/\
           next2 ((x4+1),(bn refs1 (x.Vars+x4) r4),u3,u4,u2))))
        (((0:Int)<=x.Top/\x.Top<(refs1.length:Int))/\
        c5 (at' refs1 x.Top) order place x7 x5 x6 λr6=>
        Q r6 none))))
end Go.Gg
namespace Go.Gg
def d8 (s:List Int) (Q:List Int->Prop):Prop:=
 ∀isnil:Bool,(isnil=true->s.length=0)->
 ak isnil
  (Q [])
  ((([]++s).length*8<=140737488355328)/\
  Q ([]++s))
def b9 (s:List (List GRat)) (Q:List (List GRat)->Prop):Prop:=
 ∀isnil:Bool,(isnil=true->s=[])->
 ak isnil
  (Q [])
  ((([]++s).length*24<=140737488355328)/\
  Q ([]++s))
end Go.Gg
namespace Go.Gg
def l7 (x:GRat) (Q:Bool->Prop):Prop:=
 io x λr=>
 Q (!r)
def bL (s:List GRat) (Q:Int->Prop):Prop:=
 bf (σ:=Int) 0 λx next1=>
  ak (decide (x<(s.length:Int)))
   (((0:Int)<=x/\x<(s.length:Int))/\
   l7 (at' s x) λr=>
   ak r
    (Q x)
    (rng (x+1)/\
    next1 (x+1)))
   (Q (-1))
def bG (s:List GRat) (Q:Bool->Prop):Prop:=
 bL s λr=>
 Q (decide (0<=r))
def j_ (p:List GRat) (vars:Int) (Q:Option Int->Prop):Prop:=
 ak ((p.length:Int) != vars)
  (Q (some 11))
  (bG p λr=>
  ak r
   (Q (some 3))
   (Q none))
def nw (v:List GRat) (r:Int) (Q:GRat->Prop):Prop:=
 ak (decide (r<2))
  (eu r λr1=>
  Q r1)
  (rng (r-2)/\
  ((0:Int)<=(r-2)/\(r-2)<(v.length:Int))/\
  Q (at' v (r-2)))
def j9 (r:Int) (v:List GRat) (Q:GRat->Prop):Prop:=
 ak (decide (r<2))
  (eu r λr1=>
  Q r1)
  (rng (r-2)/\
  ((0:Int)<=(r-2)/\(r-2)<(v.length:Int))/\
  Q (at' v (r-2)))
def iW (n:GDNode) (p:List GRat) (v:List GRat) (Q:GRat->Prop):Prop:=
 ((0:Int)<=n.Var/\n.Var<(p.length:Int))/\
 cP (eu 1) λr=>
 cP (eF r (at' p n.Var)) λr1=>
 ∃r2,(j9 n.Lo v λy1=>y1=r2)/\
 cP (dA r1 r2) λr3=>
 ∃r4,(j9 n.Hi v λy2=>y2=r4)/\
 cP (dA (at' p n.Var) r4) λr5=>
 cP (dD r3 r5) λr6=>
 Q r6
def jv (d:GDiagram) (p:List GRat) (Q:List GRat->Prop):Prop:=
 i9 56 0 (d.Nodes.length:Int)/\
 bf (σ:=Int×(List GRat)) (0,(bp 0 (⟨false,[],[]⟩:GRat))) λ⟨x,v⟩ next1=>
  ak (decide (x<(d.Nodes.length:Int)))
   (((0:Int)<=x/\x<(d.Nodes.length:Int))/\
   iW (at' d.Nodes x) p v λr=>
   ((v++[r]).length*56<=140737488355328)/\
   rng (x+1)/\
   next1 ((x+1),(v++[r])))
   (Q v)
def mu (f:GFormula) (p:List GRat) (Q:GRat->Option Int->Prop):Prop:=
 df f λerr=>
 ak (Option.isSome err)
  (Q (⟨false,[],[]⟩:GRat) err)
  (j_ p f.Vars λerr1=>
  ak (Option.isSome err1)
   (Q (⟨false,[],[]⟩:GRat) err1)
   (mN f λr r1=>
   ak (Option.isSome r1)
    (Q (⟨false,[],[]⟩:GRat) r1)
    (iz f r λr2 r3=>
    ak (Option.isSome r3)
     (Q (⟨false,[],[]⟩:GRat) r3)
     (cP (jv r2 p) λr4=>
     cP (nw r4 r2.Root) λr5=>
     Q r5 none))))
end Go.Gg
namespace Go.Gg
def mY (x:GRat) (Q:Bool->Prop):Prop:=
 io x λr=>
 Q (!r)
def bO (s:List GRat) (Q:Int->Prop):Prop:=
 bf (σ:=Int) 0 λx next1=>
  ak (decide (x<(s.length:Int)))
   (((0:Int)<=x/\x<(s.length:Int))/\
   mY (at' s x) λr=>
   ak r
    (Q x)
    (rng (x+1)/\
    next1 (x+1)))
   (Q (-1))
def bo (s:List GRat) (Q:Bool->Prop):Prop:=
 bO s λr=>
 Q (decide (0<=r))
def fp (m:GMission) (Q:Option Int->Prop):Prop:=
 ak ((m.Phases.length:Int) == 0)
  (Q (some 11))
  (ak (decide (6<(m.Phases.length:Int)))
   (Q (some 4))
   (((0:Int)<=0/\0<(m.Phases.length:Int))/\
   bf (σ:=Int) 0 λx next1=>
    ak (decide (x<(m.Phases.length:Int)))
     (((0:Int)<=x/\x<(m.Phases.length:Int))/\
     df (at' m.Phases x) λerr=>
     ak (Option.isSome err)
      (Q err)
      (ak ((at' m.Phases x).Vars != (at' m.Phases 0).Vars)
       (Q (some 11))
       (rng (x+1)/\
       next1 (x+1))))
     (rng ((at' m.Phases 0).Vars*(m.Phases.length:Int))/\
     ak (decide (24<((at' m.Phases 0).Vars*(m.Phases.length:Int))))
      (Q (some 4))
      (ak ((m.P.length:Int) != (at' m.Phases 0).Vars)
       (Q (some 11))
       (bf (σ:=Int) 0 λx1 next2=>
        ak (decide (x1<(m.P.length:Int)))
         (((0:Int)<=x1/\x1<(m.P.length:Int))/\
         ak (((at' m.P x1).length:Int) != (m.Phases.length:Int))
          (Q (some 11))
          (bo (at' m.P x1) λr=>
          ak r
           (Q (some 3))
           (rng (x1+1)/\
           next2 (x1+1))))
         (Q none))))))
def eM (m:GMission) (h1:List Int) (Q:Option Int->Prop):Prop:=
 fp m λerr=>
 ak (Option.isSome err)
  (Q err)
  (ak ((h1.length:Int) != (m.P.length:Int))
   (Q (some 11))
   (bf (σ:=Int) 0 λx next1=>
    ak (decide (x<(h1.length:Int)))
     (((0:Int)<=x/\x<(h1.length:Int))/\
     dc (α:=Bool) (λnext2=>
      ak (decide ((at' h1 x)<0))
       (next2 true)
       (next2 (decide ((m.Phases.length:Int)<(at' h1 x)))))
      λx1=>
      ak x1
       (Q (some 3))
       (rng (x+1)/\
       next1 (x+1)))
     (Q none)))
def kg (h1:List Int) (j:Int) (Q:Int->Prop):Prop:=
 bf (σ:=Int×Int) (0,0) λ⟨set,x⟩ next1=>
  ak (decide (x<(h1.length:Int)))
   (((0:Int)<=x/\x<(h1.length:Int))/\
   ak (decide ((at' h1 x)<=j))
    ((((0:Int)<=x/\x<=64)/\rng (1*2^(Int.toNat x)))/\
    rng (x+1)/\
    next1 ((bits .or .i64 set (1*2^(Int.toNat x))),(x+1)))
    (rng (x+1)/\
    next1 (set,(x+1))))
   (Q set)
def lE (m:GMission) (h1:List Int) (Q:Int->Option Int->Prop):Prop:=
 eM m h1 λerr=>
 ak (Option.isSome err)
  (Q 0 err)
  (bf (σ:=Int) 0 λx next1=>
   ak (decide (x<(m.Phases.length:Int)))
    (((0:Int)<=x/\x<(m.Phases.length:Int))/\
    cP (kg h1 x) λr=>
    Hs (ku (at' m.Phases x) r) λr1 r2=>
    ak (Option.isSome r2)
     (Q 0 r2)
     (ak r1
      (Q x none)
      (rng (x+1)/\
      next1 (x+1))))
    (Q (m.Phases.length:Int) none))
def kh (m:GMission) (h1:List Int) (Q:GRat->Option Int->Prop):Prop:=
 eM m h1 λerr=>
 ak (Option.isSome err)
  (Q (⟨false,[],[]⟩:GRat) err)
  (eu 1 λr=>
  bf (σ:=Int×GRat) (0,r) λ⟨x,x1⟩ next1=>
   ak (decide (x<(h1.length:Int)))
    (((0:Int)<=x/\x<(h1.length:Int))/\
    ((0:Int)<=x/\x<(m.P.length:Int))/\
    rng ((at' h1 x)+1)/\
    ((0:Int)<=0/\0<=(min ((at' h1 x)+1) (m.Phases.length:Int))/\(min ((at' h1 x)+1) (m.Phases.length:Int))<=((at' m.P x).length:Int))/\
    bf (σ:=Int×GRat) (0,x1) λ⟨x2,x3⟩ next2=>
     ak (decide (x2<((cE (at' m.P x) 0 (min ((at' h1 x)+1) (m.Phases.length:Int))).length:Int)))
      (((0:Int)<=x2/\x2<((cE (at' m.P x) 0 (min ((at' h1 x)+1) (m.Phases.length:Int))).length:Int))/\
      dc (α:=GRat) (λnext3=>
       ak (decide (x2<(at' h1 x)))
        (eF r (at' (cE (at' m.P x) 0 (min ((at' h1 x)+1) (m.Phases.length:Int))) x2) λr2=>
        next3 r2)
        (next3 (at' (cE (at' m.P x) 0 (min ((at' h1 x)+1) (m.Phases.length:Int))) x2)))
       λx4=>
       dA x3 x4 λr1=>
       rng (x2+1)/\
       next2 ((x2+1),r1))
      (rng (x+1)/\
      next1 ((x+1),x3)))
    (Q x1 none))
def dG (kind:Int) (k2:Int) (args:List Int) (Vars:Int) (_Top:Int) (Nodes:List GNode) (Q:List GNode->Int->Prop):Prop:=
 ((Nodes++[(⟨kind,k2,args⟩:GNode)]).length*40<=140737488355328)/\
 rng (Vars+((Nodes++[(⟨kind,k2,args⟩:GNode)]).length:Int))/\
 rng ((Vars+((Nodes++[(⟨kind,k2,args⟩:GNode)]).length:Int))-1)/\
 Q (Nodes++[(⟨kind,k2,args⟩:GNode)]) ((Vars+((Nodes++[(⟨kind,k2,args⟩:GNode)]).length:Int))-1)
def dE (arg:Int) (u:GFormula) (u1:Int) (u2:Int) (u3:List (List Int)) (Q:Int->Prop):Prop:=
 ak (decide (arg<u.Vars))
  (((0:Int)<=arg/\arg<(u3.length:Int))/\
  ((0:Int)<=u1/\u1<((at' u3 arg).length:Int))/\
  Q (at' (at' u3 arg) u1))
  (rng (u2+arg)/\
  rng ((u2+arg)-u.Vars)/\
  Q ((u2+arg)-u.Vars))
def ko (m:GMission) (Q:GFormula->List GRat->Option Int->Prop):Prop:=
 fp m λerr=>
 ak (Option.isSome err)
  (Q (⟨0,[],0⟩:GFormula) [] err)
  (rng ((m.P.length:Int)*(m.Phases.length:Int))/\
  i9 24 (m.P.length:Int) (m.P.length:Int)/\
  bf (σ:=Int×(List (List Int))×(List GNode)) (0,(bp (m.P.length:Int) []),[]) λ⟨x,x1,x2⟩ next1=>
   ak (decide (x<((Int.toNat (m.P.length:Int)):Int)))
    (bf (σ:=Int×(List (List Int))×(List Int)×(List GNode)) (0,x1,[],x2) λ⟨x3,x4,so,x5⟩ next2=>
     ak (decide (x3<(m.Phases.length:Int)))
      (rng (x*(m.Phases.length:Int))/\
      rng ((x*(m.Phases.length:Int))+x3)/\
      ((so++[((x*(m.Phases.length:Int))+x3)]).length*8<=140737488355328)/\
      ak (x3 == 0)
       (((0:Int)<=x/\x<(x4.length:Int))/\
       ((0:Int)<=0/\0<((so++[((x*(m.Phases.length:Int))+x3)]).length:Int))/\
       ((at' x4 x++[(at' (so++[((x*(m.Phases.length:Int))+x3)]) 0)]).length*8<=140737488355328)/\
       ((0:Int)<=x/\x<(x4.length:Int))/\
       rng (x3+1)/\
       next2 ((x3+1),(bn x4 x (at' x4 x++[(at' (so++[((x*(m.Phases.length:Int))+x3)]) 0)])),(so++[((x*(m.Phases.length:Int))+x3)]),x5))
       (((0:Int)<=x/\x<(x4.length:Int))/\
       ∃r,(d8 (so++[((x*(m.Phases.length:Int))+x3)]) λy1=>y1=r)/\
       ∃u r1,(dG 3 0 r ((m.P.length:Int)*(m.Phases.length:Int)) 0 x5 λy2 y3=>y2=u/\y3=r1)/\
       ((at' x4 x++[r1]).length*8<=140737488355328)/\
       ((0:Int)<=x/\x<(x4.length:Int))/\
       rng (x3+1)/\
       next2 ((x3+1),(bn x4 x (at' x4 x++[r1])),(so++[((x*(m.Phases.length:Int))+x3)]),u)))
      (rng (x+1)/\
      next1 ((x+1),x4,x5)))
    (bf (σ:=Int×(List Int)×(List GNode)) (0,[],x2) λ⟨x6,tops,x7⟩ next3=>
     ak (decide (x6<(m.Phases.length:Int)))
      (((0:Int)<=x6/\x6<(m.Phases.length:Int))/\
      rng (((m.P.length:Int)*(m.Phases.length:Int))+(x7.length:Int))/\
      bf (σ:=Int×(List GNode)) (0,x7) λ⟨x8,x9⟩ next4=>
       ak (decide (x8<(((at' m.Phases x6).Nodes).length:Int)))
        (((0:Int)<=x8/\x8<(((at' m.Phases x6).Nodes).length:Int))/\
        bf (σ:=Int×(List Int)) (0,[]) λ⟨x10,args⟩ next5=>
         ak (decide (x10<(((at' ((at' m.Phases x6).Nodes) x8).Args).length:Int)))
          (((0:Int)<=x10/\x10<(((at' ((at' m.Phases x6).Nodes) x8).Args).length:Int))/\
          kC (at' ((at' ((at' m.Phases x6).Nodes) x8).Args) x10) λa=>
          dE a (at' m.Phases x6) x6 (((m.P.length:Int)*(m.Phases.length:Int))+(x7.length:Int)) x1 λr2=>
          ((args++[r2]).length*8<=140737488355328)/\
          rng (x10+1)/\
          next5 ((x10+1),(args++[r2])))
          (dG ((at' ((at' m.Phases x6).Nodes) x8).Kind) ((at' ((at' m.Phases x6).Nodes) x8).K) args ((m.P.length:Int)*(m.Phases.length:Int)) 0 x9 λu1 _=>
          rng (x8+1)/\
          next4 ((x8+1),u1)))
        (dE ((at' m.Phases x6).Top) (at' m.Phases x6) x6 (((m.P.length:Int)*(m.Phases.length:Int))+(x7.length:Int)) x1 λr4=>
        ((tops++[r4]).length*8<=140737488355328)/\
        rng (x6+1)/\
        next3 ((x6+1),(tops++[r4]),x9)))
      (((0:Int)<=0/\0<(tops.length:Int))/\
      dc (α:=Int×(List GNode)) (λnext8=>
       ak (decide (1<(m.Phases.length:Int)))
        (dG 3 0 tops ((m.P.length:Int)*(m.Phases.length:Int)) (at' tops 0) x7 λu2 r6=>
        next8 (r6,u2))
        (next8 ((at' tops 0),x7)))
       λ⟨x11,x12⟩=>
       ak (decide (128<(x12.length:Int)))
        (Q (⟨0,[],0⟩:GFormula) [] (some 4))
        (bf (σ:=Int×(List GRat)) (0,[]) λ⟨x13,p⟩ next6=>
         ak (decide (x13<(m.P.length:Int)))
          (((0:Int)<=x13/\x13<(m.P.length:Int))/\
          bf (σ:=Int×(List GRat)) (0,p) λ⟨x14,p1⟩ next7=>
           ak (decide (x14<((at' m.P x13).length:Int)))
            (((0:Int)<=x14/\x14<((at' m.P x13).length:Int))/\
            dD (at' (at' m.P x13) x14) (⟨false,[],[]⟩:GRat) λr5=>
            ((p1++[r5]).length*56<=140737488355328)/\
            rng (x14+1)/\
            next7 ((x14+1),(p1++[r5])))
            (rng (x13+1)/\
            next6 ((x13+1),p1)))
          (Q (⟨((m.P.length:Int)*(m.Phases.length:Int)),x12,x11⟩:GFormula) p none)))))
end Go.Gg
namespace Go.Gg
def cF (m:GMission) (Q:Int->Prop):Prop:=
 ((0:Int)<=0/\0<(m.Phases.length:Int))/\
 Q ((at' m.Phases 0).Vars)
def mU (m:GMission) (Q:Int->Prop):Prop:=
 ak ((m.Phases.length:Int) == 0)
  (Q 11)
  (ak (decide (6<(m.Phases.length:Int)))
   (Q 4)
   (bf (σ:=Int) 0 λj next1=>
    ak (decide (j<(m.Phases.length:Int)))
     (((0:Int)<=j/\j<(m.Phases.length:Int))/\
     mG (at' m.Phases j) λe=>
     ak (e != 0)
      (Q e)
      (((0:Int)<=j/\j<(m.Phases.length:Int))/\
      cP (cF m) λr=>
      ak ((at' m.Phases j).Vars != r)
       (Q 11)
       (rng (j+1)/\
       next1 (j+1))))
     (Q 0)))
def h_ (m:GMission) (Q:Int->Prop):Prop:=
 mU m λe=>
 ak (e != 0)
  (Q e)
  (cP (cF m) λr=>
  rng (r*(m.Phases.length:Int))/\
  ak (decide (24<(r*(m.Phases.length:Int))))
   (Q 4)
   (cP (cF m) λr1=>
   ak ((m.P.length:Int) != r1)
    (Q 11)
    (bf (σ:=Int) 0 λi next1=>
     ak (decide (i<(m.P.length:Int)))
      (((0:Int)<=i/\i<(m.P.length:Int))/\
      ak (((at' m.P i).length:Int) != (m.Phases.length:Int))
       (Q 11)
       (bf (σ:=Int) 0 λj next2=>
        ((0:Int)<=i/\i<(m.P.length:Int))/\
        ak (decide (j<((at' m.P i).length:Int)))
         (((0:Int)<=i/\i<(m.P.length:Int))/\
         ((0:Int)<=j/\j<((at' m.P i).length:Int))/\
         nz (at' (at' m.P i) j) λr2=>
         ak (!r2)
          (Q 3)
          (rng (j+1)/\
          next2 (j+1)))
         (rng (i+1)/\
         next1 (i+1))))
      (Q 0))))
def i2 (events:Int) (phases:Int) (Q:List (List Int)->Prop):Prop:=
 bf (σ:=(List (List Int))×Int) ([[]],0) λ⟨out,i⟩ next1=>
  ak (decide (i<events))
   (bf (σ:=Int×(List (List Int))) (0,[]) λ⟨k1,next2⟩ next3=>
    ak (decide (k1<(out.length:Int)))
     (bf (σ:=Int×(List (List Int))) (0,next2) λ⟨j,next4⟩ next5=>
      ak (decide (j<=phases))
       (((0:Int)<=k1/\k1<(out.length:Int))/\
       ((at' out k1).length*8<=140737488355328)/\
       (((at' out k1)++[j]).length*8<=140737488355328)/\
       ((next4++[((at' out k1)++[j])]).length*24<=140737488355328)/\
       rng (j+1)/\
       next5 ((j+1),(next4++[((at' out k1)++[j])])))
       (rng (k1+1)/\
       next3 ((k1+1),next4)))
     (rng (i+1)/\
     next1 (next2,(i+1))))
   (Q out)
def lm (h1:List Int) (j:Int) (Q:Int->Prop):Prop:=
 bf (σ:=Int×Int) (0,0) λ⟨out,i⟩ next1=>
  ak (decide (i<(h1.length:Int)))
   (((0:Int)<=i/\i<(h1.length:Int))/\
   ak (decide ((at' h1 i)<=j))
    ((((0:Int)<=i/\i<=64)/\rng (1*2^(Int.toNat i)))/\
    rng (i+1)/\
    next1 ((bits .or .i64 out (1*2^(Int.toNat i))),(i+1)))
    (rng (i+1)/\
    next1 (out,(i+1))))
   (Q out)
def mB (m:GMission) (h1:List Int) (Q:Int->Prop):Prop:=
 bf (σ:=Int) 0 λj next1=>
  ak (decide (j<(m.Phases.length:Int)))
   (((0:Int)<=j/\j<(m.Phases.length:Int))/\
   cP (lm h1 j) λr=>
   cP (mD (at' m.Phases j) r) λr1=>
   ak r1
    (Q j)
    (rng (j+1)/\
    next1 (j+1)))
   (Q (m.Phases.length:Int))
def lj (m:GMission) (h1:List Int) (Q:GRat->Prop):Prop:=
 iB 1 λr=>
 bf (σ:=Int×GRat) (0,r) λ⟨i,x⟩ next1=>
  ak (decide (i<(h1.length:Int)))
   (bf (σ:=Int×GRat) (0,x) λ⟨k1,x1⟩ next2=>
    ((0:Int)<=i/\i<(h1.length:Int))/\
    ak (decide (k1<(at' h1 i)))
     (cP (iB 1) λr1=>
     ((0:Int)<=i/\i<(m.P.length:Int))/\
     ((0:Int)<=k1/\k1<((at' m.P i).length:Int))/\
     cP (gu r1 (at' (at' m.P i) k1)) λr2=>
     cP (iJ x1 r2) λr3=>
     rng (k1+1)/\
     next2 ((k1+1),r3))
     (((0:Int)<=i/\i<(h1.length:Int))/\
     ak (decide ((at' h1 i)<(m.Phases.length:Int)))
      (((0:Int)<=i/\i<(m.P.length:Int))/\
      ((0:Int)<=i/\i<(h1.length:Int))/\
      ((0:Int)<=(at' h1 i)/\(at' h1 i)<((at' m.P i).length:Int))/\
      cP (iJ x1 (at' (at' m.P i) (at' h1 i))) λr4=>
      rng (i+1)/\
      next1 ((i+1),r4))
      (rng (i+1)/\
      next1 ((i+1),x1))))
   (Q x)
def l_ (events:Int) (phases:Int) (Q:List GNode->Prop):Prop:=
 bf (σ:=Int×(List GNode)) (0,[]) λ⟨i,out⟩ next1=>
  ak (decide (i<events))
   (bf (σ:=Int×(List GNode)) (1,out) λ⟨j,out1⟩ next2=>
    ak (decide (j<phases))
     (bf (σ:=Int×(List Int)) (0,[]) λ⟨k1,x⟩ next3=>
      ak (decide (k1<=j))
       (rng (i*phases)/\
       rng ((i*phases)+k1)/\
       ((x++[((i*phases)+k1)]).length*8<=140737488355328)/\
       rng (k1+1)/\
       next3 ((k1+1),(x++[((i*phases)+k1)])))
       (((out1++[(⟨3,0,x⟩:GNode)]).length*40<=140737488355328)/\
       rng (j+1)/\
       next2 ((j+1),(out1++[(⟨3,0,x⟩:GNode)]))))
     (rng (i+1)/\
     next1 ((i+1),out1)))
   (Q out)
def jK (m:GMission) (j:Int) (arg:Int) (first:Int) (Q:Int->Prop):Prop:=
 cP (cF m) λn=>
 ak (decide (n<=arg))
  (rng (first+arg)/\
  rng ((first+arg)-n)/\
  Q ((first+arg)-n))
  (ak (j == 0)
   (rng (arg*(m.Phases.length:Int))/\
   Q (arg*(m.Phases.length:Int)))
   (rng (n*(m.Phases.length:Int))/\
   rng ((m.Phases.length:Int)-1)/\
   rng (arg*((m.Phases.length:Int)-1))/\
   rng ((n*(m.Phases.length:Int))+(arg*((m.Phases.length:Int)-1)))/\
   rng (((n*(m.Phases.length:Int))+(arg*((m.Phases.length:Int)-1)))+j)/\
   rng ((((n*(m.Phases.length:Int))+(arg*((m.Phases.length:Int)-1)))+j)-1)/\
   Q ((((n*(m.Phases.length:Int))+(arg*((m.Phases.length:Int)-1)))+j)-1)))
def lk (m:GMission) (Q:GFormula->List GRat->Int->Prop):Prop:=
 cP (cF m) λn=>
 rng (n*(m.Phases.length:Int))/\
 l_ n (m.Phases.length:Int) λr=>
 bf (σ:=Int×(List GNode)×(List Int)) (0,r,[]) λ⟨j,x,x1⟩ next1=>
  ak (decide (j<(m.Phases.length:Int)))
   (((0:Int)<=j/\j<(m.Phases.length:Int))/\
   rng ((n*(m.Phases.length:Int))+(x.length:Int))/\
   bf (σ:=Int×(List GNode)) (0,x) λ⟨i,x2⟩ next2=>
    ak (decide (i<(((at' m.Phases j).Nodes).length:Int)))
     (((0:Int)<=i/\i<(((at' m.Phases j).Nodes).length:Int))/\
     ((0:Int)<=i/\i<(((at' m.Phases j).Nodes).length:Int))/\
     bf (σ:=Int×(List Int)) (0,[]) λ⟨a,x3⟩ next3=>
      ((0:Int)<=i/\i<(((at' m.Phases j).Nodes).length:Int))/\
      ak (decide (a<(((at' ((at' m.Phases j).Nodes) i).Args).length:Int)))
       (((0:Int)<=i/\i<(((at' m.Phases j).Nodes).length:Int))/\
       ((0:Int)<=a/\a<(((at' ((at' m.Phases j).Nodes) i).Args).length:Int))/\
       cP (jK m j (at' ((at' ((at' m.Phases j).Nodes) i).Args) a) ((n*(m.Phases.length:Int))+(x.length:Int))) λr1=>
       ((x3++[r1]).length*8<=140737488355328)/\
       rng (a+1)/\
       next3 ((a+1),(x3++[r1])))
       (((x2++[(⟨(at' ((at' m.Phases j).Nodes) i).Kind,(at' ((at' m.Phases j).Nodes) i).K,x3⟩:GNode)]).length*40<=140737488355328)/\
       rng (i+1)/\
       next2 ((i+1),(x2++[(⟨(at' ((at' m.Phases j).Nodes) i).Kind,(at' ((at' m.Phases j).Nodes) i).K,x3⟩:GNode)]))))
     (cP (jK m j ((at' m.Phases j).Top) ((n*(m.Phases.length:Int))+(x.length:Int))) λr2=>
     ((x1++[r2]).length*8<=140737488355328)/\
     rng (j+1)/\
     next1 ((j+1),x2,(x1++[r2]))))
   (((0:Int)<=0/\0<(x1.length:Int))/\
   dc (α:=Int×(List GNode)) (λnext5=>
    ak (decide (1<(m.Phases.length:Int)))
     (rng ((n*(m.Phases.length:Int))+(x.length:Int))/\
     ((x++[(⟨3,0,x1⟩:GNode)]).length*40<=140737488355328)/\
     next5 (((n*(m.Phases.length:Int))+(x.length:Int)),(x++[(⟨3,0,x1⟩:GNode)])))
     (next5 ((at' x1 0),x)))
    λ⟨x4,x5⟩=>
    ak (decide (128<(x5.length:Int)))
     (Q (⟨0,[],0⟩:GFormula) [] 4)
     (bf (σ:=Int×(List GRat)) (0,[]) λ⟨i1,p⟩ next4=>
      ak (decide (i1<n))
       (((0:Int)<=i1/\i1<(m.P.length:Int))/\
       ((p++(at' m.P i1)).length*56<=140737488355328)/\
       rng (i1+1)/\
       next4 ((i1+1),(p++(at' m.P i1))))
       (Q (⟨(n*(m.Phases.length:Int)),x5,x4⟩:GFormula) p 0)))
end Go.Gg
namespace Go.Gg
def gY (m:GMission) (Q:List GRat->Option Int->Prop):Prop:=
 fp m λerr=>
 ak (Option.isSome err)
  (Q [] err)
  (bf (σ:=Int×Int) (1,0) λ⟨all,x⟩ next1=>
   ak (decide (x<(m.P.length:Int)))
    (rng ((m.Phases.length:Int)+1)/\
    rng (all*((m.Phases.length:Int)+1))/\
    ak (decide (4096<(all*((m.Phases.length:Int)+1))))
     (Q [] (some 4))
     (rng (x+1)/\
     next1 ((all*((m.Phases.length:Int)+1)),(x+1))))
    (i9 56 (m.Phases.length:Int) (m.Phases.length:Int)/\
    bf (σ:=Int×(List GRat)) (0,(bp (m.Phases.length:Int) (⟨false,[],[]⟩:GRat))) λ⟨x1,out⟩ next2=>
     ak (decide (x1<all))
      (i9 8 (m.P.length:Int) (m.P.length:Int)/\
      bf (σ:=Int×Int×(List Int)) (x1,0,(bp (m.P.length:Int) 0)) λ⟨number,x2,h1⟩ next3=>
       ak (decide (x2<((Int.toNat (m.P.length:Int)):Int)))
        (rng ((m.Phases.length:Int)+1)/\
        ((m.Phases.length:Int)+1)≠0/\
        rng ((m.Phases.length:Int)+1)/\
        (((m.Phases.length:Int)+1)≠0/\rng (Int.tdiv number ((m.Phases.length:Int)+1)))/\
        ((0:Int)<=x2/\x2<(h1.length:Int))/\
        rng (x2+1)/\
        next3 ((Int.tdiv number ((m.Phases.length:Int)+1)),(x2+1),(bn h1 x2 (Int.tmod number ((m.Phases.length:Int)+1)))))
        (lE m h1 λr r1=>
        ak (Option.isSome r1)
         (Q [] r1)
         (ak (r == (m.Phases.length:Int))
          (rng (x1+1)/\
          next2 ((x1+1),out))
          (kh m h1 λr2 r3=>
          ak (Option.isSome r3)
           (Q [] r3)
           (((0:Int)<=r/\r<(out.length:Int))/\
           cP (dD (at' out r) r2) λr4=>
           ((0:Int)<=r/\r<(out.length:Int))/\
           rng (x1+1)/\
           next2 ((x1+1),(bn out r r4)))))))
      (Q out none)))
def dX (m:GMission) (Q:GRat->Option Int->Prop):Prop:=
 ko m λr r1 r2=>
 ak (Option.isSome r2)
  (Q (⟨false,[],[]⟩:GRat) r2)
  (mu r r1 λr3 r4=>
  Q r3 r4)
def iu (m:GMission) (i:Int) (Q:GRat->Option Int->Prop):Prop:=
 fp m λerr=>
 ak (Option.isSome err)
  (Q (⟨false,[],[]⟩:GRat) err)
  (dc (α:=Bool) (λnext1=>
   ak (decide (i<0))
    (next1 true)
    (next1 (decide ((m.P.length:Int)<=i))))
   λx=>
   ak x
    (Q (⟨false,[],[]⟩:GRat) (some 10))
    (dX m λr r1=>
    ak (Option.isSome r1)
     (Q (⟨false,[],[]⟩:GRat) r1)
     (cP (b9 m.P) λr2=>
     i9 56 (m.Phases.length:Int) (m.Phases.length:Int)/\
     ((0:Int)<=i/\i<(r2.length:Int))/\
     dX (⟨m.Phases,(bn r2 i (bp (m.Phases.length:Int) (⟨false,[],[]⟩:GRat)))⟩:GMission) λr3 r4=>
     ak (Option.isSome r4)
      (Q (⟨false,[],[]⟩:GRat) r4)
      (eF r r3 λr5=>
      Q r5 none))))
end Go.Gg
namespace Go.Gg
def eX (m:GMission) (Q:Int->Prop):Prop:=
 bf (σ:=Int×Int) (1,0) λ⟨n,i⟩ next1=>
  cF m λr=>
  ak (decide (i<r))
   (ak (decide (n<=4096))
    (rng ((m.Phases.length:Int)+1)/\
    rng (n*((m.Phases.length:Int)+1))/\
    rng (i+1)/\
    next1 ((n*((m.Phases.length:Int)+1)),(i+1)))
    (Q n))
   (Q n)
def i0 (m:GMission) (Q:List GRat->Prop):Prop:=
 i9 56 (m.Phases.length:Int) (m.Phases.length:Int)/\
 cP (cF m) λr=>
 cP (i2 r (m.Phases.length:Int)) λl=>
 bf (σ:=Int×(List GRat)) (0,(bp (m.Phases.length:Int) (⟨false,[],[]⟩:GRat))) λ⟨i,out⟩ next1=>
  ak (decide (i<(l.length:Int)))
   (((0:Int)<=i/\i<(l.length:Int))/\
   cP (mB m (at' l i)) λj=>
   ak (decide (j<(m.Phases.length:Int)))
    (((0:Int)<=j/\j<(out.length:Int))/\
    ((0:Int)<=i/\i<(l.length:Int))/\
    cP (lj m (at' l i)) λr1=>
    cP (gy (at' out j) r1) λr2=>
    ((0:Int)<=j/\j<(out.length:Int))/\
    rng (i+1)/\
    next1 ((i+1),(bn out j r2)))
    (rng (i+1)/\
    next1 ((i+1),out)))
   (Q out)
def jJ (m:GMission) (Q:GRat->Prop):Prop:=
 i0 m λl=>
 bf (σ:=Int×GRat) (0,(⟨false,[],[]⟩:GRat)) λ⟨i,x⟩ next1=>
  ak (decide (i<(l.length:Int)))
   (((0:Int)<=i/\i<(l.length:Int))/\
   cP (gy x (at' l i)) λr=>
   rng (i+1)/\
   next1 ((i+1),r))
   (Q x)
def mA (m:GMission) (i:Int) (Q:GMission->Prop):Prop:=
 bf (σ:=Int×(List (List GRat))) (0,[]) λ⟨k1,x⟩ next1=>
  ak (decide (k1<(m.P.length:Int)))
   (ak (k1 == i)
    (i9 56 (m.Phases.length:Int) (m.Phases.length:Int)/\
    ((x++[(bp (m.Phases.length:Int) (⟨false,[],[]⟩:GRat))]).length*24<=140737488355328)/\
    rng (k1+1)/\
    next1 ((k1+1),(x++[(bp (m.Phases.length:Int) (⟨false,[],[]⟩:GRat))])))
    (((0:Int)<=k1/\k1<(m.P.length:Int))/\
    ((x++[(at' m.P k1)]).length*24<=140737488355328)/\
    rng (k1+1)/\
    next1 ((k1+1),(x++[(at' m.P k1)]))))
   (Q (⟨m.Phases,x⟩:GMission))
end Go.Gg
namespace Go.Gg
end Go.Gg
namespace Go.Gg
def gU (n:Int) (d:Int) (Q:GRat->Prop):Prop:=
 kE n d λr _=>
 Q r
def iv (Q:GMission->Prop):Prop:=
 gU 1 2 λr=>
 Q (⟨[(⟨2,[(⟨2,0,[0,1]⟩:GNode)],2⟩:GFormula),(⟨2,[(⟨3,0,[0,1]⟩:GNode)],2⟩:GFormula)],[[r,r],[r,r]]⟩:GMission)
def jQ (Q:Bool->Prop):Prop:=
 iv λr=>
 gY r λr1 r2=>
 iv λr3=>
 dX r3 λr4 r5=>
 ak (Option.isNone r2)
  (ak (Option.isNone r5)
   (cP (gU 15 16) λr6=>
   cP (jI r4 r6) λr7=>
   ak r7
    (cP (gU 1 4) λr8=>
    cP (gU 11 16) λr9=>
    cP (mn r1 [r8,r9]) λr10=>
    Q r10)
    (Q false))
   (Q false))
  (Q false)
def jP (m:GMission) (Q:Bool->Prop):Prop:=
 ak (decide (20<(m.Phases.length:Int)))
  (Q true)
  (ak (decide (50<(m.P.length:Int)))
   (Q true)
   (bf (σ:=Int) 0 λi next1=>
    ak (decide (i<(m.P.length:Int)))
     (((0:Int)<=i/\i<(m.P.length:Int))/\
     ak (decide (50<((at' m.P i).length:Int)))
      (Q true)
      (bf (σ:=Int) 0 λj next2=>
       ((0:Int)<=i/\i<(m.P.length:Int))/\
       ak (decide (j<((at' m.P i).length:Int)))
        (((0:Int)<=i/\i<(m.P.length:Int))/\
        ((0:Int)<=j/\j<((at' m.P i).length:Int))/\
        ak (decide (4<(((at' (at' m.P i) j).Num).length:Int)))
         (Q true)
         (((0:Int)<=i/\i<(m.P.length:Int))/\
         ((0:Int)<=j/\j<((at' m.P i).length:Int))/\
         ak (decide (4<(((at' (at' m.P i) j).Den).length:Int)))
          (Q true)
          (rng (j+1)/\
          next2 (j+1))))
        (rng (i+1)/\
        next1 (i+1))))
     (h_ m λr=>
     ak (r == 0)
      (eX m λr1=>
      ak (decide (300<r1))
       (eX m λr2=>
       Q (decide (r2<=4096)))
       (Q false))
      (Q false))))
def kI (m:GMission) (Q:Bool->Prop):Prop:=
 h_ m λr=>
 ak (r == 0)
  (eX m λr1=>
  Q (decide (4096<r1)))
  (Q false)
def n8 (m:GMission) (Q:Int->Prop):Prop:=
 lk m λ_ _ r2=>
 Q r2
end Go.Gg
namespace Go.Gg
def j0 (m:GMission) (i:Int) (Q:Bool->Prop):Prop:=
 dc (α:=Bool) (λnext4=>
  jQ λr14=>
  ak (!r14)
   (next4 true)
   (jP m λr15=>
   ak r15
    (next4 true)
    (kI m λr16=>
    next4 r16)))
  λx=>
  ak x
   (jQ λr=>
   Q r)
   (dX m λr1 r2=>
   iu m i λr3 r4=>
   h_ m λone=>
   dc (α:=Int×Int) (λnext3=>
    ak (one == 0)
     (n8 m λone2=>
     ak (decide (i<0))
      (next3 (one2,10))
      (cF m λr13=>
      ak (decide (r13<=i))
       (next3 (one2,10))
       (next3 (one2,one2))))
     (next3 (one,one)))
    λ⟨one1,two⟩=>
    nT r2 λr5=>
    ak (r5 != one1)
     (Q false)
     (nT r4 λr6=>
     ak (r6 != two)
      (Q false)
      (dc (α:=GRat) (λnext2=>
       ak (one1 == 0)
        (jJ m λr12=>
        next2 r12)
        (next2 (⟨false,[],[]⟩:GRat)))
       λx1=>
       dc (α:=GRat) (λnext1=>
        ak (two == 0)
         (cP (mA m i) λr9=>
         cP (jJ r9) λr10=>
         cP (gu x1 r10) λr11=>
         next1 r11)
         (next1 (⟨false,[],[]⟩:GRat)))
        λx2=>
        jI r1 x1 λr7=>
        ak r7
         (jI r3 x2 λr8=>
         Q r8)
         (Q false))))
end Go.Gg
