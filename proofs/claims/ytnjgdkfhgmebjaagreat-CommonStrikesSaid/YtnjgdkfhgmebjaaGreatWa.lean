/- The structures of the program and how they are encoded. Conditions: none. -/
import Derived.Test.YtnjgdkfhgmebjaaGreatGc
import Derived.Test.YtnjgdkfhgmebjaaGreatGd2
namespace Go.Gg
structure GNode where
 Kind:Int
 K:Int
 Args:List Int
instance:Inhabited GNode:=⟨⟨0,0,[]⟩⟩
def bF (r:GNode):AV:=.agg [.int .i64 r.Kind,.int .i64 r.K,eL (AV.int .i64) r.Args]
structure GFormula where
 Vars:Int
 Nodes:List GNode
 Top:Int
instance:Inhabited GFormula:=⟨⟨0,[],0⟩⟩
def aA (r:GFormula):AV:=.agg [.int .i64 r.Vars,eL bF r.Nodes,.int .i64 r.Top]
structure GRat where
 Neg:Bool
 Num:List Int
 Den:List Int
instance:Inhabited GRat:=⟨⟨false,[],[]⟩⟩
def ac (r:GRat):AV:=.agg [.bool r.Neg,eL (AV.int .u32) r.Num,eL (AV.int .u32) r.Den]
structure GCauseGroup where
 Kind:Int
 Members:List Int
 Factors:List GRat
instance:Inhabited GCauseGroup:=⟨⟨0,[],[]⟩⟩
def ak (r:GCauseGroup):AV:=.agg [.int .i64 r.Kind,eL (AV.int .i64) r.Members,eL ac r.Factors]
structure GCauses where
 P:List GRat
 Groups:List GCauseGroup
instance:Inhabited GCauses:=⟨⟨[],[]⟩⟩
def lB (r:GCauses):AV:=.agg [eL ac r.P,eL ak r.Groups]
structure GMission where
 Phases:List GFormula
 P:List (List GRat)
instance:Inhabited GMission:=⟨⟨[],[]⟩⟩
structure GCube where
 Yes:Int
 No:Int
instance:Inhabited GCube:=⟨⟨0,0⟩⟩
structure Gcause where
 p:GRat
 members:List Int
instance:Inhabited Gcause:=⟨⟨default,[]⟩⟩
def dD (r:Gcause):AV:=.agg [.bool r.p.Neg,eL (AV.int .u32) r.p.Num,eL (AV.int .u32) r.p.Den,eL (AV.int .i64) r.members]
structure GDNode where
 Var:Int
 Lo:Int
 Hi:Int
instance:Inhabited GDNode:=⟨⟨0,0,0⟩⟩
structure GDiagram where
 Order:List Int
 Nodes:List GDNode
 Root:Int
instance:Inhabited GDiagram:=⟨⟨[],[],0⟩⟩
structure GZero where
 Nodes:List GDNode
 Root:Int
instance:Inhabited GZero:=⟨⟨[],0⟩⟩
structure Gtable where
 events:List Int
 true:List Bool
instance:Inhabited Gtable:=⟨⟨[],[]⟩⟩
structure Gwalk where
 Formula:GFormula
 events:List Int
 seen:List Bool
instance:Inhabited Gwalk:=⟨⟨default,[],[]⟩⟩
structure GsetsKey where
 op:Int
 a:Int
 b:Int
instance:Inhabited GsetsKey:=⟨⟨0,0,0⟩⟩
end Go.Gg
namespace Go.Gg
def eJ:ByteArray:=⟨#[0,1,2,2,3,3,3,3,4,4,4,4,4,4,4,4,5,5,5,5,5,5,5,5,5,5,5,5,5,5,5,5,6,6,6,6,6,6,6,6,6,6,6,6,6,6,6,6,6,6,6,6,6,6,6,6,6,6,6,6,6,6,6,6,7,7,7,7,7,7,7,7,7,7,7,7,7,7,7,7,7,7,7,7,7,7,7,7,7,7,7,7,7,7,7,7,7,7,7,7,7,7,7,7,7,7,7,7,7,7,7,7,7,7,7,7,7,7,7,7,7,7,7,7,7,7,7,7,8,8,8,8,8,8,8,8,8,8,8,8,8,8,8,8,8,8,8,8,8,8,8,8,8,8,8,8,8,8,8,8,8,8,8,8,8,8,8,8,8,8,8,8,8,8,8,8,8,8,8,8,8,8,8,8,8,8,8,8,8,8,8,8,8,8,8,8,8,8,8,8,8,8,8,8,8,8,8,8,8,8,8,8,8,8,8,8,8,8,8,8,8,8,8,8,8,8,8,8,8,8,8,8,8,8,8,8,8,8,8,8,8,8,8,8,8,8,8,8,8,8,8,8,8,8,8,8]⟩
def bs (a:List Int) (Q:List Int->Prop):Prop:=
 cq (α:=Int) (λnext1=>
  bg (σ:=Int) (a.length:Int) λn1 next2=>
   aj (decide (0<n1))
    (rng (n1-1)/\
    ((0:Int)<=(n1-1)/\(n1-1)<(a.length:Int))/\
    aj ((at' a (n1-1)) == 0)
     (rng (n1-1)/\
     next2 (n1-1))
     (next1 n1))
    (next1 n1))
  λn=>
  aj (n == 0)
   (Q [])
   (((0:Int)<=0/\0<=n/\n<=(a.length:Int))/\
   ((([]:List Int)++(gn a 0 n)).length*4<=140737488355328)/\
   Q (([]:List Int)++(gn a 0 n)))
def cM (a:List Int) (b:List Int) (Q:Int->Prop):Prop:=
 bs a λa1=>
 bs b λb1=>
 aj ((a1.length:Int) != (b1.length:Int))
  (aj (decide ((a1.length:Int)<(b1.length:Int)))
   (Q (-1))
   (Q 1))
  (rng ((a1.length:Int)-1)/\
  bg (σ:=Int) ((a1.length:Int)-1) λi next1=>
   aj (decide (0<=i))
    (((0:Int)<=i/\i<(a1.length:Int))/\
    ((0:Int)<=i/\i<(b1.length:Int))/\
    aj (decide ((at' a1 i)<(at' b1 i)))
     (Q (-1))
     (((0:Int)<=i/\i<(a1.length:Int))/\
     ((0:Int)<=i/\i<(b1.length:Int))/\
     aj (decide ((at' b1 i)<(at' a1 i)))
      (Q 1)
      (rng (i-1)/\
      next1 (i-1))))
    (Q 0))
def iG (n:Int) (Q:List Int->Prop):Prop:=
 aj (decide (n<=0))
  (Q [])
  (bs [(IntKind.wrap .u32 n),(IntKind.wrap .u32 (n / 2^(Int.toNat 32)))] λr=>
  Q r)
def fr (a:List Int) (b:Int) (Q:List Int->Int->Prop):Prop:=
 m5 4 (a.length:Int) (a.length:Int)/\
 rng ((a.length:Int)-1)/\
 bg (σ:=Int×Int×(List Int)) (0,((a.length:Int)-1),(eN (a.length:Int) 0)) λ⟨rest,i,out⟩ next1=>
  aj (decide (0<=i))
   (((0:Int)<=i/\i<(a.length:Int))/\
   h9 (bits .or .u64 (IntKind.wrap .u64 (rest*2^(Int.toNat 32))) (IntKind.wrap .u64 (at' a i))) λrest1=>
   (IntKind.wrap .u64 b)≠0/\
   ((0:Int)<=i/\i<(out.length:Int))/\
   (IntKind.wrap .u64 b)≠0/\
   rng (i-1)/\
   next1 ((Int.tmod rest1 (IntKind.wrap .u64 b)),(i-1),(b8 out i (IntKind.wrap .u32 (IntKind.wrap .u64 (Int.tdiv rest1 (IntKind.wrap .u64 b)))))))
   (bs out λr=>
   Q r (IntKind.wrap .u32 rest))
def ee (x:Int) (Q:Int->Prop):Prop:=
 cq (α:=Int×Int) (λnext2=>
  aj (decide (65536<=x))
   (next2 ((x / 2^(Int.toNat 16)),16))
   (next2 (x,0)))
  λ⟨x1,n⟩=>
  cq (α:=Int×Int) (λnext1=>
   aj (decide (256<=x1))
    (rng (n+8)/\
    next1 ((x1 / 2^(Int.toNat 8)),(n+8)))
    (next1 (x1,n)))
   λ⟨x2,n1⟩=>
   ((0:Int)<=(IntKind.wrap .u8 x2)/\(IntKind.wrap .u8 x2)<(eJ.size:Int))/\
   rng (n1+(IntKind.wrap .i64 (mA eJ (Int.toNat (IntKind.wrap .u8 x2)))))/\
   h9 (n1+(IntKind.wrap .i64 (mA eJ (Int.toNat (IntKind.wrap .u8 x2))))) λn2=>
   Q n2
def db (x:Int) (Q:Int->Prop):Prop:=
 ee x λr=>
 rng (32-r)/\
 Q (32-r)
def da (a:List Int) (n:Int) (Q:List Int->Prop):Prop:=
 rng ((a.length:Int)+1)/\
 m5 4 ((a.length:Int)+1) ((a.length:Int)+1)/\
 bg (σ:=Int×(List Int)) (0,(eN ((a.length:Int)+1) 0)) λ⟨x,out⟩ next1=>
  aj (decide (x<(a.length:Int)))
   (((0:Int)<=x/\x<(a.length:Int))/\
   ((0:Int)<=n/\n<=64)/\
   h9 (IntKind.wrap .u64 ((IntKind.wrap .u64 (at' a x))*2^(Int.toNat n))) λy1=>
   ((0:Int)<=x/\x<(out.length:Int))/\
   ((0:Int)<=x/\x<(out.length:Int))/\
   rng (x+1)/\
   ((0:Int)<=(x+1)/\(x+1)<(out.length:Int))/\
   rng (x+1)/\
   next1 ((x+1),(b8 (b8 out x (bits .or .u32 (at' out x) (IntKind.wrap .u32 y1))) (x+1) (IntKind.wrap .u32 (y1 / 2^(Int.toNat 32))))))
   (Q out)
def b_ (a:List Int) (i:Int) (Q:Int->Prop):Prop:=
 aj (decide (i<(a.length:Int)))
  (((0:Int)<=i/\i<(a.length:Int))/\
  Q (IntKind.wrap .u64 (at' a i)))
  (Q 0)
def i4 (u:List Int) (uo:Nat) (ul:Nat) (v:List Int) (n:Int) (Q:List Int->Bool->Prop):Prop:=
 bg (σ:=Int×Int×Int×(List Int)) (0,0,0,u) λ⟨carry,borrow,x,u1⟩ next1=>
  aj (decide (x<(ul:Int)))
   (b_ v x λr=>
   h9 (IntKind.wrap .u64 (carry+(IntKind.wrap .u64 (n*r)))) λcarry1=>
   ((0:Int)<=x/\x<(ul:Int))/\
   (Int.toNat ((uo:Int)+x))<u1.length/\
   h9 (IntKind.wrap .u64 ((IntKind.wrap .u64 ((IntKind.wrap .u64 (at' u1 ((uo:Int)+x)))-(IntKind.wrap .u64 (IntKind.wrap .u32 carry1))))-borrow)) λd=>
   ((0:Int)<=x/\x<(ul:Int))/\
   (Int.toNat ((uo:Int)+x))<u1.length/\
   rng (x+1)/\
   next1 ((carry1 / 2^(Int.toNat 32)),(d / 2^(Int.toNat 63)),(x+1),(b8 u1 ((uo:Int)+x) (IntKind.wrap .u32 d))))
   (Q u1 (borrow == 1))
def i5 (u:List Int) (uo:Nat) (ul:Nat) (v:List Int) (Q:List Int->Prop):Prop:=
 bg (σ:=Int×Int×(List Int)) (0,0,u) λ⟨carry,x,u1⟩ next1=>
  aj (decide (x<(ul:Int)))
   (((0:Int)<=x/\x<(ul:Int))/\
   (Int.toNat ((uo:Int)+x))<u1.length/\
   cI (b_ v x) λr=>
   ((0:Int)<=x/\x<(ul:Int))/\
   (Int.toNat ((uo:Int)+x))<u1.length/\
   h9 ((IntKind.wrap .u64 (carry+(IntKind.wrap .u64 ((IntKind.wrap .u64 (at' u1 ((uo:Int)+x)))+r)))) / 2^(Int.toNat 32)) λcarry1=>
   rng (x+1)/\
   next1 (carry1,(x+1),(b8 u1 ((uo:Int)+x) (IntKind.wrap .u32 (IntKind.wrap .u64 (carry+(IntKind.wrap .u64 ((IntKind.wrap .u64 (at' u1 ((uo:Int)+x)))+r))))))))
   (Q u1)
def ft (a:List Int) (n:Int) (Q:List Int->Prop):Prop:=
 m5 4 (a.length:Int) (a.length:Int)/\
 bg (σ:=Int×(List Int)) (0,(eN (a.length:Int) 0)) λ⟨x,out⟩ next1=>
  aj (decide (x<(a.length:Int)))
   (b_ a x λr=>
   rng (x+1)/\
   b_ a (x+1) λr1=>
   ((0:Int)<=n/\n<=64)/\
   ((0:Int)<=x/\x<(out.length:Int))/\
   rng (x+1)/\
   next1 ((x+1),(b8 out x (IntKind.wrap .u32 ((bits .or .u64 r (IntKind.wrap .u64 (r1*2^(Int.toNat 32)))) / 2^(Int.toNat n))))))
   (Q out)
def fk (a:List Int) (b:List Int) (Q:List Int->List Int->Option Int->Prop):Prop:=
 bs a λa1=>
 bs b λb1=>
 aj ((b1.length:Int) == 0)
  (Q [] [] (some 8))
  (cM a1 b1 λr=>
  aj (decide (r<0))
   (Q [] a1 none)
   (aj ((b1.length:Int) == 1)
    (((0:Int)<=0/\0<(b1.length:Int))/\
    fr a1 (at' b1 0) λr1 r2=>
    iG (IntKind.wrap .i64 r2) λr3=>
    Q r1 r3 none)
    (rng ((b1.length:Int)-1)/\
    ((0:Int)<=((b1.length:Int)-1)/\((b1.length:Int)-1)<(b1.length:Int))/\
    db (at' b1 ((b1.length:Int)-1)) λn=>
    da b1 n λr4=>
    ((0:Int)<=0/\0<=(b1.length:Int)/\(b1.length:Int)<=(r4.length:Int))/\
    h9 (gn r4 0 (b1.length:Int)) λv=>
    da a1 n λu=>
    rng ((v.length:Int)-1)/\
    ((0:Int)<=((v.length:Int)-1)/\((v.length:Int)-1)<(v.length:Int))/\
    rng ((v.length:Int)-2)/\
    ((0:Int)<=((v.length:Int)-2)/\((v.length:Int)-2)<(v.length:Int))/\
    rng ((u.length:Int)-(v.length:Int))/\
    m5 4 ((u.length:Int)-(v.length:Int)) ((u.length:Int)-(v.length:Int))/\
    rng (((Int.toNat ((u.length:Int)-(v.length:Int))):Int)-1)/\
    h9 (((Int.toNat ((u.length:Int)-(v.length:Int))):Int)-1) λj=>
    bg (σ:=Int×(List Int)×(List Int)) (j,u,(eN ((u.length:Int)-(v.length:Int)) 0)) λ⟨j1,u1,q⟩ next1=>
     aj (decide (0<=j1))
      (rng (j1+(v.length:Int))/\
      ((0:Int)<=(j1+(v.length:Int))/\(j1+(v.length:Int))<(u1.length:Int))/\
      rng (j1+(v.length:Int))/\
      rng ((j1+(v.length:Int))-1)/\
      ((0:Int)<=((j1+(v.length:Int))-1)/\((j1+(v.length:Int))-1)<(u1.length:Int))/\
      (IntKind.wrap .u64 (at' v ((v.length:Int)-1)))≠0/\
      (IntKind.wrap .u64 (at' v ((v.length:Int)-1)))≠0/\
      cq (α:=Int) (λnext3=>
       bg (σ:=Int×Int) ((IntKind.wrap .u64 (Int.tdiv (bits .or .u64 (IntKind.wrap .u64 ((IntKind.wrap .u64 (at' u1 (j1+(v.length:Int))))*2^(Int.toNat 32))) (IntKind.wrap .u64 (at' u1 ((j1+(v.length:Int))-1)))) (IntKind.wrap .u64 (at' v ((v.length:Int)-1))))),(Int.tmod (bits .or .u64 (IntKind.wrap .u64 ((IntKind.wrap .u64 (at' u1 (j1+(v.length:Int))))*2^(Int.toNat 32))) (IntKind.wrap .u64 (at' u1 ((j1+(v.length:Int))-1)))) (IntKind.wrap .u64 (at' v ((v.length:Int)-1))))) λ⟨guess2,rest⟩ next4=>
        cq (α:=Unit) (λnext5=>
         aj (decide (4294967296<=guess2))
          (next5 ())
          (rng (j1+(v.length:Int))/\
          rng ((j1+(v.length:Int))-2)/\
          ((0:Int)<=((j1+(v.length:Int))-2)/\((j1+(v.length:Int))-2)<(u1.length:Int))/\
          aj (decide ((bits .or .u64 (IntKind.wrap .u64 (rest*2^(Int.toNat 32))) (IntKind.wrap .u64 (at' u1 ((j1+(v.length:Int))-2))))<(IntKind.wrap .u64 (guess2*(IntKind.wrap .u64 (at' v ((v.length:Int)-2)))))))
           (next5 ())
           (next3 guess2)))
         λ_=>
         h9 (IntKind.wrap .u64 (rest+(IntKind.wrap .u64 (at' v ((v.length:Int)-1))))) λrest1=>
         aj (decide (4294967296<=rest1))
          (next3 (IntKind.wrap .u64 (guess2-1)))
          (next4 ((IntKind.wrap .u64 (guess2-1)),rest1)))
       λguess=>
       cq (α:=Int×(List Int)) (λnext2=>
        rng (j1+(v.length:Int))/\
        rng ((j1+(v.length:Int))+1)/\
        ((0:Int)<=j1/\j1<=((j1+(v.length:Int))+1)/\((j1+(v.length:Int))+1)<=(u1.length:Int))/\
        i4 u1 (0+Int.toNat j1) (Int.toNat ((j1+(v.length:Int))+1)-Int.toNat j1) v guess λu3 r5=>
        u3.length=u1.length/\
        aj r5
         (rng (j1+(v.length:Int))/\
         rng ((j1+(v.length:Int))+1)/\
         ((0:Int)<=j1/\j1<=((j1+(v.length:Int))+1)/\((j1+(v.length:Int))+1)<=(u1.length:Int))/\
         i5 u3 (0+Int.toNat j1) (Int.toNat ((j1+(v.length:Int))+1)-Int.toNat j1) v λu4=>
         u4.length=u3.length/\
         next2 ((IntKind.wrap .u64 (guess-1)),u4))
         (next2 (guess,u3)))
        λ⟨guess1,u2⟩=>
        ((0:Int)<=j1/\j1<(q.length:Int))/\
        rng (j1-1)/\
        next1 ((j1-1),u2,(b8 q j1 (IntKind.wrap .u32 guess1))))
      (bs q λq1=>
      ft u1 n λr6=>
      bs r6 λr7=>
      Q q1 r7 none))))
def gK (a:List Int) (b:List Int) (Q:List Int->Prop):Prop:=
 bs a λa1=>
 bs b λb1=>
 bg (σ:=(List Int)×(List Int)) (a1,b1) λ⟨a2,b2⟩ next1=>
  aj (decide (0<(b2.length:Int)))
   (fk a2 b2 λ_ r1 _=>
   next1 (b2,r1))
   (Q a2)
def cw (a:List Int) (b:List Int) (Q:List Int->Prop):Prop:=
 rng ((a.length:Int)+(b.length:Int))/\
 m5 4 ((a.length:Int)+(b.length:Int)) ((a.length:Int)+(b.length:Int))/\
 bg (σ:=Int×(List Int)) (0,(eN ((a.length:Int)+(b.length:Int)) 0)) λ⟨x,out⟩ next1=>
  aj (decide (x<(a.length:Int)))
   (((0:Int)<=x/\x<(a.length:Int))/\
   bg (σ:=Int×Int×(List Int)) (0,0,out) λ⟨carry,x1,out1⟩ next2=>
    aj (decide (x1<(b.length:Int)))
     (((0:Int)<=x1/\x1<(b.length:Int))/\
     rng (x+x1)/\
     ((0:Int)<=(x+x1)/\(x+x1)<(out1.length:Int))/\
     h9 (IntKind.wrap .u64 (carry+(IntKind.wrap .u64 ((IntKind.wrap .u64 ((IntKind.wrap .u64 (at' a x))*(IntKind.wrap .u64 (at' b x1))))+(IntKind.wrap .u64 (at' out1 (x+x1))))))) λcarry1=>
     rng (x+x1)/\
     ((0:Int)<=(x+x1)/\(x+x1)<(out1.length:Int))/\
     rng (x1+1)/\
     next2 ((carry1 / 2^(Int.toNat 32)),(x1+1),(b8 out1 (x+x1) (IntKind.wrap .u32 carry1))))
     (rng (x+(b.length:Int))/\
     ((0:Int)<=(x+(b.length:Int))/\(x+(b.length:Int))<(out1.length:Int))/\
     rng (x+1)/\
     next1 ((x+1),(b8 out1 (x+(b.length:Int)) (IntKind.wrap .u32 carry)))))
   (bs out λr=>
   Q r)
def i6 (a:List Int) (Q:Int->Prop):Prop:=
 rng ((a.length:Int)-1)/\
 bg (σ:=Int) ((a.length:Int)-1) λi next1=>
  aj (decide (0<=i))
   (((0:Int)<=i/\i<(a.length:Int))/\
   aj ((at' a i) != 0)
    (rng (32*i)/\
    ((0:Int)<=i/\i<(a.length:Int))/\
    ee (at' a i) λr=>
    rng ((32*i)+r)/\
    Q ((32*i)+r))
    (rng (i-1)/\
    next1 (i-1)))
   (Q 0)
def gL (a:List Int) (b:List Int) (Q:List Int->Prop):Prop:=
 rng ((max (a.length:Int) (b.length:Int))+1)/\
 m5 4 ((max (a.length:Int) (b.length:Int))+1) ((max (a.length:Int) (b.length:Int))+1)/\
 bg (σ:=Int×Int×(List Int)) (0,0,(eN ((max (a.length:Int) (b.length:Int))+1) 0)) λ⟨carry,x,out⟩ next1=>
  aj (decide (x<((Int.toNat ((max (a.length:Int) (b.length:Int))+1)):Int)))
   (b_ a x λr=>
   b_ b x λr1=>
   h9 (IntKind.wrap .u64 (carry+(IntKind.wrap .u64 (r+r1)))) λcarry1=>
   ((0:Int)<=x/\x<(out.length:Int))/\
   rng (x+1)/\
   next1 ((carry1 / 2^(Int.toNat 32)),(x+1),(b8 out x (IntKind.wrap .u32 carry1))))
   (bs out λr2=>
   Q r2)
def gJ (a:List Int) (b:List Int) (Q:List Int->Option Int->Prop):Prop:=
 cM a b λr=>
 aj (decide (r<0))
  (Q [] (some 3))
  (m5 4 (a.length:Int) (a.length:Int)/\
  bg (σ:=Int×Int×(List Int)) (0,0,(eN (a.length:Int) 0)) λ⟨borrow,x,out⟩ next1=>
   aj (decide (x<((Int.toNat (a.length:Int)):Int)))
    (b_ a x λr1=>
    b_ b x λr2=>
    h9 (IntKind.wrap .u64 ((IntKind.wrap .u64 (r1-r2))-borrow)) λd=>
    ((0:Int)<=x/\x<(out.length:Int))/\
    rng (x+1)/\
    next1 ((d / 2^(Int.toNat 63)),(x+1),(b8 out x (IntKind.wrap .u32 d))))
    (bs out λr3=>
    Q r3 none))
def fW (a:List Int) (Q:Int->Prop):Prop:=
 bg (σ:=Int×Int) (0,0) λ⟨n,x⟩ next1=>
  aj (decide (x<(a.length:Int)))
   (((0:Int)<=x/\x<(a.length:Int))/\
   bg (σ:=Int×Int) (n,0) λ⟨n1,x1⟩ next2=>
    aj (decide (x1<32))
     (((0:Int)<=x1/\x1<=32)/\
     aj ((bits .and .u32 ((at' a x) / 2^(Int.toNat x1)) 1) == 1)
      (rng (32*x)/\
      rng ((32*x)+x1)/\
      rng (((32*x)+x1)+1)/\
      rng (x1+1)/\
      next2 ((((32*x)+x1)+1),(x1+1)))
      (rng (x1+1)/\
      next2 (n1,(x1+1))))
     (rng (x+1)/\
     next1 (n1,(x+1))))
   (Q n)
def ca (a:List Int) (Q:List Int->Prop):Prop:=
 cq (α:=Int) (λnext1=>
  bg (σ:=Int) (a.length:Int) λn1 next2=>
   aj (decide (0<n1))
    (rng (n1-1)/\
    ((0:Int)<=(n1-1)/\(n1-1)<(a.length:Int))/\
    aj ((at' a (n1-1)) == 0)
     (rng (n1-1)/\
     next2 (n1-1))
     (next1 n1))
    (next1 n1))
  λn=>
  ((0:Int)<=0/\0<=n/\n<=(a.length:Int))/\
  ((([]:List Int)++(gn a 0 n)).length*4<=140737488355328)/\
  Q (([]:List Int)++(gn a 0 n))
def bB (a:List Int) (i:Int) (Q:Int->Prop):Prop:=
 aj (decide (i<(a.length:Int)))
  (((0:Int)<=i/\i<(a.length:Int))/\
  Q (IntKind.wrap .u64 (at' a i)))
  (Q 0)
def cN (a:List Int) (b:List Int) (Q:List Int->Prop):Prop:=
 rng ((a.length:Int)+(b.length:Int))/\
 rng (((a.length:Int)+(b.length:Int))+1)/\
 m5 4 (((a.length:Int)+(b.length:Int))+1) (((a.length:Int)+(b.length:Int))+1)/\
 bg (σ:=Int×(List Int)) (0,(eN (((a.length:Int)+(b.length:Int))+1) 0)) λ⟨x,out⟩ next1=>
  aj (decide (x<(a.length:Int)))
   (((0:Int)<=x/\x<(a.length:Int))/\
   rng ((b.length:Int)+1)/\
   bg (σ:=Int×Int×(List Int)) (0,0,out) λ⟨carry,x1,out1⟩ next2=>
    aj (decide (x1<((b.length:Int)+1)))
     (cI (bB b x1) λr=>
     rng (x+x1)/\
     ((0:Int)<=(x+x1)/\(x+x1)<(out1.length:Int))/\
     rng (x+x1)/\
     ((0:Int)<=(x+x1)/\(x+x1)<(out1.length:Int))/\
     h9 ((IntKind.wrap .u64 ((IntKind.wrap .u64 ((IntKind.wrap .u64 ((IntKind.wrap .u64 (at' a x))*r))+(IntKind.wrap .u64 (at' out1 (x+x1)))))+carry)) / 2^(Int.toNat 32)) λcarry1=>
     rng (x1+1)/\
     next2 (carry1,(x1+1),(b8 out1 (x+x1) (IntKind.wrap .u32 (IntKind.wrap .u64 ((IntKind.wrap .u64 ((IntKind.wrap .u64 ((IntKind.wrap .u64 (at' a x))*r))+(IntKind.wrap .u64 (at' out1 (x+x1)))))+carry))))))
     (rng (x+1)/\
     next1 ((x+1),out1)))
   (ca out λr1=>
   Q r1)
def fG (a:List Int) (b:List Int) (Q:Int->Prop):Prop:=
 rng ((max (a.length:Int) (b.length:Int))-1)/\
 h9 ((max (a.length:Int) (b.length:Int))-1) λi=>
 bg (σ:=Int) i λi1 next1=>
  aj (decide (0<=i1))
   (bB a i1 λr=>
   bB b i1 λr1=>
   aj (decide (r<r1))
    (Q (-1))
    (bB a i1 λr2=>
    bB b i1 λr3=>
    aj (decide (r3<r2))
     (Q 1)
     (rng (i1-1)/\
     next1 (i1-1))))
   (Q 0)
def gU (a:List Int) (b:List Int) (Q:List Int->Int->Prop):Prop:=
 fG a b λr=>
 aj (decide (r<0))
  (Q [] 3)
  (bg (σ:=Int×Int×(List Int)) (0,0,[]) λ⟨borrow,x,out⟩ next1=>
   aj (decide (x<(a.length:Int)))
    (bB a x λr1=>
    bB b x λr2=>
    h9 (IntKind.wrap .u64 ((IntKind.wrap .u64 (r1-r2))-borrow)) λs=>
    ((out++[(IntKind.wrap .u32 s)]).length*4<=140737488355328)/\
    rng (x+1)/\
    next1 ((s / 2^(Int.toNat 63)),(x+1),(out++[(IntKind.wrap .u32 s)])))
    (ca out λr3=>
    Q r3 0))
def j7 (a:List Int) (s:Int) (Q:List Int->Prop):Prop:=
 bg (σ:=Int×Int×(List Int)) (0,0,[]) λ⟨carry,x,out⟩ next1=>
  aj (decide (x<(a.length:Int)))
   (((0:Int)<=x/\x<(a.length:Int))/\
   ((0:Int)<=s/\s<=64)/\
   h9 (bits .or .u64 carry (IntKind.wrap .u64 ((IntKind.wrap .u64 (at' a x))*2^(Int.toNat s)))) λcarry1=>
   ((out++[(IntKind.wrap .u32 carry1)]).length*4<=140737488355328)/\
   rng (x+1)/\
   next1 ((carry1 / 2^(Int.toNat 32)),(x+1),(out++[(IntKind.wrap .u32 carry1)])))
   (((out++[(IntKind.wrap .u32 carry)]).length*4<=140737488355328)/\
   ca (out++[(IntKind.wrap .u32 carry)]) λr=>
   Q r)
def iF (a:List Int) (s:Int) (Q:List Int->Prop):Prop:=
 bg (σ:=Int×(List Int)) (0,[]) λ⟨x,out⟩ next1=>
  aj (decide (x<(a.length:Int)))
   (bB a x λr=>
   rng (x+1)/\
   bB a (x+1) λr1=>
   ((0:Int)<=s/\s<=64)/\
   ((out++[(IntKind.wrap .u32 ((bits .or .u64 r (IntKind.wrap .u64 (r1*2^(Int.toNat 32)))) / 2^(Int.toNat s)))]).length*4<=140737488355328)/\
   rng (x+1)/\
   next1 ((x+1),(out++[(IntKind.wrap .u32 ((bits .or .u64 r (IntKind.wrap .u64 (r1*2^(Int.toNat 32)))) / 2^(Int.toNat s)))])))
   (ca out λr2=>
   Q r2)
def gV (a:List Int) (b:List Int) (Q:List Int->List Int->Int->Prop):Prop:=
 ca b λb1=>
 aj ((b1.length:Int) == 0)
  (Q [] [] 8)
  (bg (σ:=Int) 0 λs next1=>
   rng ((b1.length:Int)-1)/\
   ((0:Int)<=((b1.length:Int)-1)/\((b1.length:Int)-1)<(b1.length:Int))/\
   ((0:Int)<=s/\s<=32)/\
   aj ((bits .and .u32 (IntKind.wrap .u32 ((at' b1 ((b1.length:Int)-1))*2^(Int.toNat s))) 2147483648) == 0)
    (rng (s+1)/\
    next1 (s+1))
    (j7 a s λa1=>
    j7 b1 s λb2=>
    m5 4 (a1.length:Int) (a1.length:Int)/\
    rng ((a1.length:Int)-(b1.length:Int))/\
    rng (((a1.length:Int)-(b1.length:Int))+1)/\
    ((0:Int)<=(max 0 (((a1.length:Int)-(b1.length:Int))+1))/\(max 0 (((a1.length:Int)-(b1.length:Int))+1))<=(a1.length:Int)/\(a1.length:Int)<=(a1.length:Int))/\
    ((([]:List Int)++(gn a1 (max 0 (((a1.length:Int)-(b1.length:Int))+1)) (a1.length:Int))).length*4<=140737488355328)/\
    rng ((a1.length:Int)-(b1.length:Int))/\
    bg (σ:=(List Int)×Int×(List Int)) ((([]:List Int)++(gn a1 (max 0 (((a1.length:Int)-(b1.length:Int))+1)) (a1.length:Int))),((a1.length:Int)-(b1.length:Int)),(eN (a1.length:Int) 0)) λ⟨r,i,q⟩ next2=>
     aj (decide (0<=i))
      (((0:Int)<=i/\i<(a1.length:Int))/\
      (([(at' a1 i)]++r).length*4<=140737488355328)/\
      ca ([(at' a1 i)]++r) λr1=>
      bB r1 (b1.length:Int) λr2=>
      rng ((b1.length:Int)-1)/\
      bB r1 ((b1.length:Int)-1) λr3=>
      rng ((b1.length:Int)-1)/\
      bB b2 ((b1.length:Int)-1) λr4=>
      r4≠0/\
      h9 (min (IntKind.wrap .u64 (Int.tdiv (bits .or .u64 (IntKind.wrap .u64 (r2*2^(Int.toNat 32))) r3) r4)) 4294967295) λguess=>
      cN b2 [(IntKind.wrap .u32 guess)] λp=>
      bg (σ:=Int×(List Int)) (guess,p) λ⟨guess1,p1⟩ next3=>
       fG p1 r1 λr5=>
       aj (decide (0<r5))
        (gU p1 b2 λr6 _=>
        next3 ((IntKind.wrap .u64 (guess1-1)),r6))
        (gU r1 p1 λr8 _=>
        ((0:Int)<=i/\i<(q.length:Int))/\
        rng (i-1)/\
        next2 (r8,(i-1),(b8 q i (IntKind.wrap .u32 guess1)))))
      (ca q λr10=>
      iF r s λr11=>
      Q r10 r11 0)))
def jj (a:List Int) (b:List Int) (Q:List Int->Prop):Prop:=
 ca a λa1=>
 ca b λb1=>
 bg (σ:=(List Int)×(List Int)) (a1,b1) λ⟨a2,b2⟩ next1=>
  aj (decide (0<(b2.length:Int)))
   (gV a2 b2 λ_ r1 _=>
   next1 (b2,r1))
   (Q a2)
def jk (a:List Int) (b:List Int) (Q:List Int->Prop):Prop:=
 rng ((max (a.length:Int) (b.length:Int))+1)/\
 bg (σ:=Int×Int×(List Int)) (0,0,[]) λ⟨carry,x,out⟩ next1=>
  aj (decide (x<((max (a.length:Int) (b.length:Int))+1)))
   (bB a x λr=>
   bB b x λr1=>
   h9 (IntKind.wrap .u64 ((IntKind.wrap .u64 (r+r1))+carry)) λs=>
   ((out++[(IntKind.wrap .u32 s)]).length*4<=140737488355328)/\
   rng (x+1)/\
   next1 ((s / 2^(Int.toNat 32)),(x+1),(out++[(IntKind.wrap .u32 s)])))
   (ca out λr2=>
   Q r2)
end Go.Gg
namespace Go.Gg
def iK (a:List Int) (b:List Int) (Q:Bool->Prop):Prop:=
 aj ((a.length:Int) != (b.length:Int))
  (Q false)
  (bg (σ:=Int) 0 λx next1=>
   aj (decide (x<(a.length:Int)))
    (((0:Int)<=x/\x<(a.length:Int))/\
    ((0:Int)<=x/\x<(b.length:Int))/\
    aj ((at' a x) != (at' b x))
     (Q false)
     (rng (x+1)/\
     next1 (x+1)))
    (Q true))
def fB (a:GRat) (b:GRat) (Q:Bool->Prop):Prop:=
 aj (a.Neg == b.Neg)
  (iK a.Num b.Num λr=>
  aj r
   (iK a.Den b.Den λr1=>
   Q r1)
   (Q false))
  (Q false)
def jq (a:List GRat) (b:List GRat) (Q:Bool->Prop):Prop:=
 aj ((a.length:Int) != (b.length:Int))
  (Q false)
  (bg (σ:=Int) 0 λx next1=>
   aj (decide (x<(a.length:Int)))
    (((0:Int)<=x/\x<(a.length:Int))/\
    ((0:Int)<=x/\x<(b.length:Int))/\
    cI (fB (at' a x) (at' b x)) λr=>
    aj (!r)
     (Q false)
     (rng (x+1)/\
     next1 (x+1)))
    (Q true))
def fX (Q:List Int->Prop):Prop:=
 Q [1]
def eQ (a:List Int) (Q:Bool->Prop):Prop:=
 aj (decide (0<(a.length:Int)))
  (rng ((a.length:Int)-1)/\
  ((0:Int)<=((a.length:Int)-1)/\((a.length:Int)-1)<(a.length:Int))/\
  Q ((at' a ((a.length:Int)-1)) != 0))
  (Q false)
def eR (a:GRat) (Q:Bool->Prop):Prop:=
 cq (α:=Bool) (λnext1=>
  aj ((a.Num.length:Int) == 0)
   (next1 ((a.Den.length:Int) == 0))
   (next1 false))
  λx=>
  aj x
   (Q (!a.Neg))
   (eQ a.Num λr=>
   aj r
    (eQ a.Den λr1=>
    aj r1
     (gK a.Num a.Den λr2=>
     fX λr3=>
     cM r2 r3 λr4=>
     Q (r4 == 0))
     (Q false))
    (Q false))
def bM (a:GRat) (Q:Bool->List Int->List Int->Prop):Prop:=
 cq (α:=Bool) (λnext1=>
  eR a λr1=>
  aj (!r1)
   (next1 true)
   (next1 ((a.Num.length:Int) == 0)))
  λx=>
  aj x
   (fX λr=>
   Q false [] r)
   (Q a.Neg a.Num a.Den)
def bW (neg:Bool) (num:List Int) (den:List Int) (Q:GRat->Prop):Prop:=
 i6 num λr=>
 aj (r == 0)
  (Q (⟨false,[],[]⟩:GRat))
  (gK num den λg2=>
  fk num g2 λr1 _ _=>
  fk den g2 λr4 _ _=>
  Q (⟨neg,r1,r4⟩:GRat))
def i3 (a:GRat) (b:GRat) (Q:GRat->Prop):Prop:=
 bM a λr r1 r2=>
 bM b λr3 r4 r5=>
 cw r1 r5 λp=>
 cw r4 r2 λq=>
 cw r2 r5 λden=>
 aj (r == r3)
  (gL p q λr6=>
  bW r r6 den λr7=>
  Q r7)
  (cM p q λr8=>
  aj (decide (0<=r8))
   (gJ p q λr9 _=>
   bW r r9 den λr11=>
   Q r11)
   (gJ q p λr12 _=>
   bW r3 r12 den λr14=>
   Q r14))
def i2 (a:GRat) (Q:GRat->Prop):Prop:=
 bM a λr r1 r2=>
 bW (!r) r1 r2 λr3=>
 Q r3
def cO (a:GRat) (b:GRat) (Q:GRat->Prop):Prop:=
 cI (i2 b) λr=>
 cI (i3 a r) λr1=>
 Q r1
def ia (n:Int) (Q:List Int->Prop):Prop:=
 aj (n == (-9223372036854775808))
  (Q [0,2147483648])
  (rng (-n)/\
  iG (max n (-n)) λr=>
  Q r)
def d5 (n:Int) (Q:GRat->Prop):Prop:=
 ia n λr=>
 fX λr1=>
 bW (decide (n<0)) r r1 λr2=>
 Q r2
def c8 (a:GRat) (b:GRat) (Q:GRat->Prop):Prop:=
 bM a λr r1 r2=>
 bM b λr3 r4 r5=>
 cw r1 r4 λr6=>
 cw r2 r5 λr7=>
 bW (r != r3) r6 r7 λr8=>
 Q r8
def dw (a:GRat) (b:GRat) (Q:GRat->Option Int->Prop):Prop:=
 bM a λr r1 r2=>
 bM b λr3 r4 r5=>
 aj ((r4.length:Int) == 0)
  (Q (⟨false,[],[]⟩:GRat) (some 8))
  (cw r1 r5 λr6=>
  cw r2 r4 λr7=>
  bW (r != r3) r6 r7 λr8=>
  Q r8 none)
def dW (a:GRat) (Q:Int->Prop):Prop:=
 bM a λr r1 _=>
 aj ((r1.length:Int) == 0)
  (Q 0)
  (aj r
   (Q (-1))
   (Q 1))
def ib (a:GRat) (Q:Bool->Prop):Prop:=
 eR a λr=>
 aj r
  (aj (!a.Neg)
   (cM a.Num a.Den λr1=>
   Q (decide (r1<=0)))
   (Q false))
  (Q false)
def cV (neg:Bool) (num:List Int) (den:List Int) (Q:GRat->Int->Prop):Prop:=
 fW den λr=>
 aj (r == 0)
  (Q (⟨false,[],[]⟩:GRat) 8)
  (fW num λr1=>
  aj (r1 == 0)
   (Q (⟨false,[],[]⟩:GRat) 0)
   (jj num den λg2=>
   gV num g2 λr2 _ _=>
   gV den g2 λr5 _ _=>
   Q (⟨neg,r2,r5⟩:GRat) 0))
def iB (n:Int) (Q:List Int->Prop):Prop:=
 cq (α:=Int) (λnext1=>
  aj (decide (n<0))
   (h9 (IntKind.wrap .u64 (0-(IntKind.wrap .u64 n))) λu1=>
   next1 u1)
   (next1 (IntKind.wrap .u64 n)))
  λu=>
  Q [(IntKind.wrap .u32 u),(IntKind.wrap .u32 (u / 2^(Int.toNat 32)))]
def iE (n:Int) (d:Int) (Q:GRat->Int->Prop):Prop:=
 iB n λr=>
 iB d λr1=>
 cV ((decide (n<0)) != (decide (d<0))) r r1 λr2 r3=>
 Q r2 r3
def eo (n:Int) (Q:GRat->Prop):Prop:=
 iE n 1 λr _=>
 Q r
def eu (a:GRat) (b:GRat) (Q:Int->Prop):Prop:=
 cO a b λr=>
 dW r λr1=>
 Q r1
def fi (a:GRat) (Q:Bool->Prop):Prop:=
 cq (α:=Bool) (λnext1=>
  aj ((a.Num.length:Int) == 0)
   (next1 true)
   (next1 ((a.Den.length:Int) == 0)))
  λx=>
  aj x
   (aj ((a.Num.length:Int) == 0)
    (aj ((a.Den.length:Int) == 0)
     (Q (!a.Neg))
     (Q false))
    (Q false))
   (rng ((a.Num.length:Int)-1)/\
   ((0:Int)<=((a.Num.length:Int)-1)/\((a.Num.length:Int)-1)<(a.Num.length:Int))/\
   aj ((at' a.Num ((a.Num.length:Int)-1)) != 0)
    (rng ((a.Den.length:Int)-1)/\
    ((0:Int)<=((a.Den.length:Int)-1)/\((a.Den.length:Int)-1)<(a.Den.length:Int))/\
    aj ((at' a.Den ((a.Den.length:Int)-1)) != 0)
     (jj a.Num a.Den λr=>
     fW r λr1=>
     Q (r1 == 1))
     (Q false))
    (Q false))
def cu (a:GRat) (Q:Bool->List Int->List Int->Prop):Prop:=
 cq (α:=Bool) (λnext1=>
  fi a λr=>
  aj (!r)
   (next1 true)
   (next1 ((a.Num.length:Int) == 0)))
  λx=>
  aj x
   (Q false [] [1])
   (Q a.Neg a.Num a.Den)
def dM (a:GRat) (Q:Int->Prop):Prop:=
 cu a λr r1 _=>
 aj ((r1.length:Int) == 0)
  (Q 0)
  (aj r
   (Q (-1))
   (Q 1))
def kO (a:GRat) (b:GRat) (Q:GRat->Prop):Prop:=
 cu a λr r1 r2=>
 cu b λr3 r4 r5=>
 cN r1 r5 λx=>
 cN r4 r2 λy1=>
 cN r2 r5 λden=>
 aj (r == r3)
  (jk x y1 λr6=>
  cV r r6 den λr7 _=>
  Q r7)
  (cq (α:=Bool×(List Int)×(List Int)) (λnext1=>
   fG x y1 λr13=>
   aj (decide (r13<0))
    (next1 (r3,y1,x))
    (next1 (r,x,y1)))
   λ⟨s,x1,y2⟩=>
   gU x1 y2 λr9 _=>
   cV s r9 den λr11 _=>
   Q r11)
def kM (a:GRat) (Q:GRat->Prop):Prop:=
 cu a λr r1 r2=>
 cV (!r) r1 r2 λr3 _=>
 Q r3
def ek (a:GRat) (b:GRat) (Q:GRat->Prop):Prop:=
 cI (kM b) λr=>
 cI (kO a r) λr1=>
 Q r1
def fF (a:GRat) (b:GRat) (Q:Int->Prop):Prop:=
 ek a b λr=>
 dM r λr1=>
 Q r1
def eP (a:GRat) (Q:Bool->Prop):Prop:=
 cI (fi a) λr=>
 aj r
  (cI (dM a) λr1=>
  aj (decide (0<=r1))
   (cI (eo 1) λr2=>
   cI (fF a r2) λr3=>
   Q (decide (r3<=0)))
   (Q false))
  (Q false)
def eq (a:GRat) (b:GRat) (Q:GRat->Prop):Prop:=
 cu a λr r1 r2=>
 cu b λr3 r4 r5=>
 cN r1 r4 λr6=>
 cN r2 r5 λr7=>
 cV (r != r3) r6 r7 λr8 _=>
 Q r8
def fE (a:GRat) (b:GRat) (Q:GRat->Int->Prop):Prop:=
 cu a λr r1 r2=>
 cu b λr3 r4 r5=>
 cN r1 r5 λr6=>
 cN r2 r4 λr7=>
 cV (r != r3) r6 r7 λr8 r9=>
 Q r8 r9
end Go.Gg
namespace Go.Gg
def ff (kind:Int) (n:Int) (Q:Bool->Prop):Prop:=
 aj (kind == 0)
  (Q (n == 0))
  (aj (kind == 1)
   (Q (n == 1))
   (aj (decide (1<=n))
    (Q (decide (n<=16)))
    (Q false)))
def e_ (f:GFormula) (i:Int) (Q:Option Int->Prop):Prop:=
 ((0:Int)<=i/\i<(f.Nodes.length:Int))/\
 cq (α:=Bool) (λnext5=>
  aj (decide ((at' f.Nodes i).Kind<0))
   (next5 true)
   (next5 (decide (5<(at' f.Nodes i).Kind))))
  λx=>
  aj x
   (Q (some 7))
   (ff ((at' f.Nodes i).Kind) (((at' f.Nodes i).Args).length:Int) λr=>
   aj (!r)
    (Q (some 11))
    (bg (σ:=Int) 0 λx1 next1=>
     aj (decide (x1<(((at' f.Nodes i).Args).length:Int)))
      (((0:Int)<=x1/\x1<(((at' f.Nodes i).Args).length:Int))/\
      cq (α:=Bool) (λnext2=>
       aj (decide ((at' ((at' f.Nodes i).Args) x1)<0))
        (next2 true)
        (rng (f.Vars+i)/\
        next2 (decide ((f.Vars+i)<=(at' ((at' f.Nodes i).Args) x1)))))
       λx2=>
       aj x2
        (Q (some 10))
        (rng (x1+1)/\
        next1 (x1+1)))
      (aj ((at' f.Nodes i).Kind == 0)
       (cq (α:=Bool) (λnext3=>
        aj ((at' f.Nodes i).K != 0)
         (next3 ((at' f.Nodes i).K != 1))
         (next3 false))
        λx3=>
        aj x3
         (Q (some 3))
         (Q none))
       (aj ((at' f.Nodes i).Kind == 4)
        (cq (α:=Bool) (λnext4=>
         aj (decide ((at' f.Nodes i).K<1))
          (next4 true)
          (next4 (decide ((((at' f.Nodes i).Args).length:Int)<(at' f.Nodes i).K))))
         λx4=>
         aj x4
          (Q (some 3))
          (Q none))
        (aj ((at' f.Nodes i).K != 0)
         (Q (some 2))
         (Q none))))))
def im (f:GFormula) (arg:Int) (Q:Bool->Prop):Prop:=
 aj (decide (0<=f.Vars))
  (aj (decide (0<=arg))
   (aj (decide (arg<f.Vars))
    (Q true)
    (rng (arg-f.Vars)/\
    Q (decide ((arg-f.Vars)<(f.Nodes.length:Int)))))
   (Q false))
  (Q false)
def dY (f:GFormula) (Q:Option Int->Prop):Prop:=
 cq (α:=Bool) (λnext2=>
  aj (decide (f.Vars<0))
   (next2 true)
   (next2 (decide (24<f.Vars))))
  λx=>
  aj x
   (Q (some 3))
   (aj (decide (128<(f.Nodes.length:Int)))
    (Q (some 4))
    (bg (σ:=Int) 0 λx1 next1=>
     aj (decide (x1<(f.Nodes.length:Int)))
      (e_ f x1 λe=>
      aj (Option.isSome e)
       (Q e)
       (rng (x1+1)/\
       next1 (x1+1)))
      (im f f.Top λr=>
      aj (!r)
       (Q (some 10))
       (Q none))))
def j5 (f:GFormula) (i:Int) (Q:Int->Prop):Prop:=
 ((0:Int)<=i/\i<(f.Nodes.length:Int))/\
 cq (α:=Int×Int) (λnext2=>
  aj ((at' f.Nodes i).Kind == 0)
   (next2 (0,0))
   (aj ((at' f.Nodes i).Kind == 1)
    (next2 (1,1))
    (aj ((at' f.Nodes i).Kind == 2)
     (next2 (1,16))
     (aj ((at' f.Nodes i).Kind == 3)
      (next2 (1,16))
      (aj ((at' f.Nodes i).Kind == 4)
       (next2 (1,16))
       (aj ((at' f.Nodes i).Kind == 5)
        (next2 (1,16))
        (Q 7)))))))
  λ⟨least,most⟩=>
  aj (decide ((((at' f.Nodes i).Args).length:Int)<least))
   (Q 11)
   (aj (decide (most<(((at' f.Nodes i).Args).length:Int)))
    (Q 11)
    (bg (σ:=Int) 0 λx next1=>
     aj (decide (x<(((at' f.Nodes i).Args).length:Int)))
      (((0:Int)<=x/\x<(((at' f.Nodes i).Args).length:Int))/\
      aj (decide ((at' ((at' f.Nodes i).Args) x)<0))
       (Q 10)
       (rng (f.Vars+i)/\
       aj (decide ((f.Vars+i)<=(at' ((at' f.Nodes i).Args) x)))
        (Q 10)
        (rng (x+1)/\
        next1 (x+1))))
      (aj ((at' f.Nodes i).Kind == 0)
       (aj ((at' f.Nodes i).K != 0)
        (aj ((at' f.Nodes i).K != 1)
         (Q 3)
         (Q 0))
        (Q 0))
       (aj ((at' f.Nodes i).Kind == 4)
        (aj (decide ((at' f.Nodes i).K<1))
         (Q 3)
         (aj (decide ((((at' f.Nodes i).Args).length:Int)<(at' f.Nodes i).K))
          (Q 3)
          (Q 0)))
        (aj ((at' f.Nodes i).K != 0)
         (Q 2)
         (Q 0))))))
def jy (f:GFormula) (arg:Int) (Q:Bool->Prop):Prop:=
 aj (decide (0<=f.Vars))
  (aj (decide (0<=arg))
   (aj (decide (arg<f.Vars))
    (Q true)
    (rng (arg-f.Vars)/\
    Q (decide ((arg-f.Vars)<(f.Nodes.length:Int)))))
   (Q false))
  (Q false)
def jz (f:GFormula) (Q:Int->Prop):Prop:=
 aj (decide (f.Vars<0))
  (Q 3)
  (aj (decide (24<f.Vars))
   (Q 3)
   (aj (decide (128<(f.Nodes.length:Int)))
    (Q 4)
    (bg (σ:=Int) 0 λx next1=>
     aj (decide (x<(f.Nodes.length:Int)))
      (j5 f x λe=>
      aj (e != 0)
       (Q e)
       (rng (x+1)/\
       next1 (x+1)))
      (jy f f.Top λr=>
      aj (!r)
       (Q 10)
       (Q 0)))))
def il (f:GFormula) (failed:Int) (Q:Option Int->Prop):Prop:=
 dY f λe=>
 aj (Option.isSome e)
  (Q e)
  (cq (α:=Bool) (λnext1=>
   aj (decide (failed<0))
    (next1 true)
    ((((0:Int)<=f.Vars/\f.Vars<=64)/\rng (1*2^(Int.toNat f.Vars)))/\
    next1 (decide ((1*2^(Int.toNat f.Vars))<=failed))))
   λx=>
   aj x
    (Q (some 3))
    (Q none))
def gD (f:GFormula) (failed:Int) (Q:List Bool->Prop):Prop:=
 rng (f.Vars+(f.Nodes.length:Int))/\
 m5 1 f.Vars (f.Vars+(f.Nodes.length:Int))/\
 bg (σ:=Int×(List Bool)) (0,(eN f.Vars false)) λ⟨x,v⟩ next1=>
  aj (decide (x<((Int.toNat f.Vars):Int)))
   (((0:Int)<=x/\x<=64)/\
   ((0:Int)<=x/\x<(v.length:Int))/\
   rng (x+1)/\
   next1 ((x+1),(b8 v x ((bits .and .i64 (failed / 2^(Int.toNat x)) 1) == 1))))
   (bg (σ:=Int×(List Bool)) (0,v) λ⟨x1,v1⟩ next2=>
    aj (decide (x1<(f.Nodes.length:Int)))
     (((0:Int)<=x1/\x1<(f.Nodes.length:Int))/\
     bg (σ:=Int×Int) (0,0) λ⟨n,x2⟩ next3=>
      aj (decide (x2<(((at' f.Nodes x1).Args).length:Int)))
       (((0:Int)<=x2/\x2<(((at' f.Nodes x1).Args).length:Int))/\
       ((0:Int)<=(at' ((at' f.Nodes x1).Args) x2)/\(at' ((at' f.Nodes x1).Args) x2)<(v1.length:Int))/\
       aj (at' v1 (at' ((at' f.Nodes x1).Args) x2))
        (rng (n+1)/\
        rng (x2+1)/\
        next3 ((n+1),(x2+1)))
        (rng (x2+1)/\
        next3 (n,(x2+1))))
       (cq (α:=Bool) (λnext4=>
        aj ((at' f.Nodes x1).Kind == 0)
         (next4 ((at' f.Nodes x1).K == 1))
         (aj ((at' f.Nodes x1).Kind == 1)
          (next4 (n == 0))
          (aj ((at' f.Nodes x1).Kind == 2)
           (next4 (n == (((at' f.Nodes x1).Args).length:Int)))
           (aj ((at' f.Nodes x1).Kind == 3)
            (next4 (decide (0<n)))
            (aj ((at' f.Nodes x1).Kind == 4)
             (next4 (decide ((at' f.Nodes x1).K<=n)))
             (aj ((at' f.Nodes x1).Kind == 5)
              (next4 ((Int.tmod n 2) == 1))
              (next4 false)))))))
        λis=>
        ((v1++[is]).length*1<=140737488355328)/\
        rng (x1+1)/\
        next2 ((x1+1),(v1++[is]))))
     (Q v1))
def fu (f:GFormula) (failed:Int) (Q:Bool->Option Int->Prop):Prop:=
 il f failed λe=>
 aj (Option.isSome e)
  (Q false e)
  (cI (gD f failed) λr=>
  ((0:Int)<=f.Top/\f.Top<(r.length:Int))/\
  Q (at' r f.Top) none)
end Go.Gg
namespace Go.Gg
def jI (f:GFormula) (Q:Bool->Prop):Prop:=
 aj (decide (200<(f.Nodes.length:Int)))
  (Q false)
  (bg (σ:=Int) 0 λx next1=>
   aj (decide (x<(f.Nodes.length:Int)))
    (((0:Int)<=x/\x<(f.Nodes.length:Int))/\
    aj (decide (40<(((at' f.Nodes x).Args).length:Int)))
     (Q false)
     (rng (x+1)/\
     next1 (x+1)))
    (Q true))
def jH (a:GRat) (Q:Bool->Prop):Prop:=
 aj (decide ((a.Num.length:Int)<=40))
  (Q (decide ((a.Den.length:Int)<=40)))
  (Q false)
def cU (v:Int) (s:List Int) (Q:Int->Prop):Prop:=
 bg (σ:=Int) 0 λx next1=>
  aj (decide (x<(s.length:Int)))
   (((0:Int)<=x/\x<(s.length:Int))/\
   aj (v == (at' s x))
    (Q x)
    (rng (x+1)/\
    next1 (x+1)))
   (Q (-1))
def bX (v:Int) (s:List Int) (Q:Bool->Prop):Prop:=
 cU v s λr=>
 Q (decide (0<=r))
def bY (s:List Int) (Q:List Int->Prop):Prop:=
 ∀isnil:Bool,(isnil=true->s=[])->
 aj isnil
  (Q [])
  (((([]:List Int)++s).length*4<=140737488355328)/\
  Q (([]:List Int)++s))
end Go.Gg
namespace Go.Gg
def jW (x:GRat) (Q:Bool->Prop):Prop:=
 ib x λr=>
 Q (!r)
def bn (s:List GRat) (Q:Int->Prop):Prop:=
 bg (σ:=Int) 0 λx next1=>
  aj (decide (x<(s.length:Int)))
   (((0:Int)<=x/\x<(s.length:Int))/\
   jW (at' s x) λr=>
   aj r
    (Q x)
    (rng (x+1)/\
    next1 (x+1)))
   (Q (-1))
def bI (s:List GRat) (Q:Bool->Prop):Prop:=
 bn s λr=>
 Q (decide (0<=r))
def dc (l:List GRat) (Q:Bool->Prop):Prop:=
 bI l λr=>
 Q (!r)
def gR (p:GRat) (beta:GRat) (Q:GRat->GRat->Option Int->Prop):Prop:=
 dc [p,beta] λr=>
 aj (!r)
  (Q (⟨false,[],[]⟩:GRat) (⟨false,[],[]⟩:GRat) (some 3))
  (c8 beta p λr1=>
  cI (d5 1) λr2=>
  cI (cO r2 r1) λr3=>
  dW r3 λr4=>
  aj (r4 == 0)
   (Q (⟨false,[],[]⟩:GRat) r1 none)
   (cI (cO p r1) λr5=>
   pZ (dw r5 r3) λr6 r7=>
   Q r6 r1 r7))
def ir (n:Int) (k1:Int) (Q:Int->Prop):Prop:=
 bg (σ:=Int×Int) (1,0) λ⟨out,x⟩ next1=>
  aj (decide (x<k1))
   (rng (n-x)/\
   rng (out*(n-x))/\
   rng (x+1)/\
   ((x+1)≠0/\rng (Int.tdiv (out*(n-x)) (x+1)))/\
   rng (x+1)/\
   next1 ((Int.tdiv (out*(n-x)) (x+1)),(x+1)))
   (Q out)
def gh (p:GRat) (factors:List GRat) (Q:List GRat->Option Int->Prop):Prop:=
 cq (α:=Bool) (λnext4=>
  dc [p] λr8=>
  aj (!r8)
   (next4 true)
   (dc factors λr9=>
   next4 (!r9)))
  λx=>
  aj x
   (Q [] (some 3))
   (cq (α:=Bool) (λnext3=>
    aj (decide ((factors.length:Int)<1))
     (next3 true)
     (next3 (decide (3<(factors.length:Int)))))
    λx1=>
    aj x1
     (Q [] (some 11))
     (rng ((factors.length:Int)+1)/\
     bg (σ:=Int×GRat×(List GRat)) (1,p,[]) λ⟨k1,x2,out⟩ next1=>
      aj (decide (k1<=((factors.length:Int)+1)))
       (cq (α:=GRat×GRat) (λnext2=>
        aj (decide (k1<((factors.length:Int)+1)))
         (cI (d5 1) λr4=>
         rng (k1-1)/\
         ((0:Int)<=(k1-1)/\(k1-1)<(factors.length:Int))/\
         cI (cO r4 (at' factors (k1-1))) λr5=>
         cI (c8 x2 r5) λr6=>
         rng (k1-1)/\
         ((0:Int)<=(k1-1)/\(k1-1)<(factors.length:Int))/\
         cI (c8 x2 (at' factors (k1-1))) λr7=>
         next2 (r7,r6))
         (next2 (x2,x2)))
        λ⟨x3,x4⟩=>
        rng (((factors.length:Int)+1)-1)/\
        rng (k1-1)/\
        cI (ir (((factors.length:Int)+1)-1) (k1-1)) λr=>
        cI (d5 r) λr1=>
        pZ (dw x4 r1) λr2 r3=>
        aj (Option.isSome r3)
         (Q [] r3)
         (((out++[r2]).length*56<=140737488355328)/\
         rng (k1+1)/\
         next1 ((k1+1),x3,(out++[r2]))))
       (Q out none)))
def dT (g1:GCauseGroup) (p:List GRat) (members:List Int) (Q:List Int->Option Int->Prop):Prop:=
 cq (α:=Bool) (λnext6=>
  aj (g1.Kind != 0)
   (next6 (g1.Kind != 1))
   (next6 false))
  λx=>
  aj x
   (Q members (some 7))
   (cq (α:=Int×Int) (λnext5=>
    aj (g1.Kind == 1)
     (rng ((g1.Members.length:Int)-1)/\
     next5 (4,((g1.Members.length:Int)-1)))
     (next5 (24,1)))
    λ⟨most,factors⟩=>
    cq (α:=Bool) (λnext4=>
     aj (decide ((g1.Members.length:Int)<2))
      (next4 true)
      (aj (decide (most<(g1.Members.length:Int)))
       (next4 true)
       (next4 ((g1.Factors.length:Int) != factors))))
     λx1=>
     aj x1
      (Q members (some 11))
      (bg (σ:=Int×(List Int)) (0,members) λ⟨x2,members1⟩ next1=>
       aj (decide (x2<(g1.Members.length:Int)))
        (((0:Int)<=x2/\x2<(g1.Members.length:Int))/\
        cq (α:=Bool) (λnext2=>
         aj (decide ((at' g1.Members x2)<0))
          (next2 true)
          (next2 (decide ((p.length:Int)<=(at' g1.Members x2)))))
         λx3=>
         aj x3
          (Q members1 (some 10))
          (bX (at' g1.Members x2) members1 λr=>
          aj r
           (Q members1 (some 6))
           (((members1++[(at' g1.Members x2)]).length*8<=140737488355328)/\
           rng (x2+1)/\
           next1 ((x2+1),(members1++[(at' g1.Members x2)])))))
        (dc g1.Factors λr1=>
        aj (!r1)
         (Q members1 (some 3))
         (bg (σ:=Int) 0 λx4 next3=>
          aj (decide (x4<(g1.Members.length:Int)))
           (((0:Int)<=x4/\x4<(g1.Members.length:Int))/\
           ((0:Int)<=(at' g1.Members x4)/\(at' g1.Members x4)<(p.length:Int))/\
           ((0:Int)<=0/\0<(g1.Members.length:Int))/\
           ((0:Int)<=(at' g1.Members 0)/\(at' g1.Members 0)<(p.length:Int))/\
           cI (eu (at' p (at' g1.Members x4)) (at' p (at' g1.Members 0))) λr2=>
           aj (r2 != 0)
            (Q members1 (some 3))
            (rng (x4+1)/\
            next3 (x4+1)))
           (Q members1 none)))))
def ja (f:GFormula) (p:List GRat) (groups:List GCauseGroup) (Q:Option Int->Prop):Prop:=
 dY f λe=>
 aj (Option.isSome e)
  (Q e)
  (aj ((p.length:Int) != f.Vars)
   (Q (some 11))
   (dc p λr=>
   aj (!r)
    (Q (some 3))
    (bg (σ:=Int×(List Int)) (0,[]) λ⟨x,members⟩ next1=>
     aj (decide (x<(groups.length:Int)))
      (((0:Int)<=x/\x<(groups.length:Int))/\
      dT (at' groups x) p members λmembers1 r1=>
      aj (Option.isSome r1)
       (Q r1)
       (rng (x+1)/\
       next1 ((x+1),members1)))
      (Q none))))
def eF (x:GRat) (Q:GRat->Prop):Prop:=
 cI (bY x.Num) λr=>
 cI (bY x.Den) λr1=>
 Q (⟨x.Neg,r,r1⟩:GRat)
def iu (g1:GCauseGroup) (p:GRat) (Q:List Gcause->GRat->Option Int->Prop):Prop:=
 aj (g1.Kind == 0)
  (((0:Int)<=0/\0<(g1.Factors.length:Int))/\
  uY (gR p (at' g1.Factors 0)) λr r1 r2=>
  Q [(⟨(⟨r1.Neg,r1.Num,r1.Den⟩:GRat),g1.Members⟩:Gcause)] r r2)
  (gh p g1.Factors λr3 r4=>
  aj (Option.isSome r4)
   (Q [] (⟨false,[],[]⟩:GRat) r4)
   ((((0:Int)<=(g1.Members.length:Int)/\(g1.Members.length:Int)<=64)/\rng (1*2^(Int.toNat (g1.Members.length:Int))))/\
   bg (σ:=Int×(List Gcause)) (0,[]) λ⟨x,out⟩ next1=>
    aj (decide (x<(1*2^(Int.toNat (g1.Members.length:Int)))))
     (bg (σ:=Int×(List Int)) (0,[]) λ⟨x1,l⟩ next2=>
      aj (decide (x1<(g1.Members.length:Int)))
       (((0:Int)<=x1/\x1<(g1.Members.length:Int))/\
       ((0:Int)<=x1/\x1<=64)/\
       aj ((bits .and .i64 (x / 2^(Int.toNat x1)) 1) == 1)
        (((l++[(at' g1.Members x1)]).length*8<=140737488355328)/\
        rng (x1+1)/\
        next2 ((x1+1),(l++[(at' g1.Members x1)])))
        (rng (x1+1)/\
        next2 ((x1+1),l)))
       (aj (decide (1<(l.length:Int)))
        (rng ((l.length:Int)-1)/\
        ((0:Int)<=((l.length:Int)-1)/\((l.length:Int)-1)<(r3.length:Int))/\
        ((out++[(⟨(⟨(at' r3 ((l.length:Int)-1)).Neg,(at' r3 ((l.length:Int)-1)).Num,(at' r3 ((l.length:Int)-1)).Den⟩:GRat),l⟩:Gcause)]).length*80<=140737488355328)/\
        rng (x+1)/\
        next1 ((x+1),(out++[(⟨(⟨(at' r3 ((l.length:Int)-1)).Neg,(at' r3 ((l.length:Int)-1)).Num,(at' r3 ((l.length:Int)-1)).Den⟩:GRat),l⟩:Gcause)])))
        (rng (x+1)/\
        next1 ((x+1),out))))
     (((0:Int)<=0/\0<(r3.length:Int))/\
     Q out (at' r3 0) none)))
def iv (f:GFormula) (p:List GRat) (groups:List GCauseGroup) (Q:GFormula->List GRat->Option Int->Prop):Prop:=
 ja f p groups λe=>
 aj (Option.isSome e)
  (Q (⟨0,[],0⟩:GFormula) [] e)
  (bg (σ:=Int×(List GRat)) (0,[]) λ⟨x,q⟩ next1=>
   aj (decide (x<(p.length:Int)))
    (((0:Int)<=x/\x<(p.length:Int))/\
    eF (at' p x) λr=>
    ((q++[r]).length*56<=140737488355328)/\
    rng (x+1)/\
    next1 ((x+1),(q++[r])))
    (bg (σ:=Int×(List GRat)×(List (Int×List Int))×(List Int)) (0,q,([]:List (Int×List Int)),[]) λ⟨x1,q1,x2,order⟩ next2=>
     aj (decide (x1<(groups.length:Int)))
      (((0:Int)<=x1/\x1<(groups.length:Int))/\
      ((0:Int)<=0/\0<(((at' groups x1).Members).length:Int))/\
      ((0:Int)<=(at' ((at' groups x1).Members) 0)/\(at' ((at' groups x1).Members) 0)<(p.length:Int))/\
      uY (iu (at' groups x1) (at' p (at' ((at' groups x1).Members) 0))) λr1 r2 r3=>
      aj (Option.isSome r3)
       (Q (⟨0,[],0⟩:GFormula) [] r3)
       (bg (σ:=Int×(List GRat)×(List (Int×List Int))) (0,q1,x2) λ⟨x3,q2,x4⟩ next3=>
        aj (decide (x3<(r1.length:Int)))
         (((0:Int)<=x3/\x3<(r1.length:Int))/\
         bg (σ:=Int×(List (Int×List Int))) (0,x4) λ⟨x5,x6⟩ next4=>
          aj (decide (x5<(((at' r1 x3).members).length:Int)))
           (((0:Int)<=x5/\x5<(((at' r1 x3).members).length:Int))/\
           ((cg x6 (at' ((at' r1 x3).members) x5)++[(q2.length:Int)]).length*8<=140737488355328)/\
           rng (x5+1)/\
           next4 ((x5+1),(d4 x6 (at' ((at' r1 x3).members) x5) (cg x6 (at' ((at' r1 x3).members) x5)++[(q2.length:Int)]))))
           (eF ((at' r1 x3).p) λr4=>
           ((q2++[r4]).length*56<=140737488355328)/\
           rng (x3+1)/\
           next3 ((x3+1),(q2++[r4]),x6)))
         (bg (σ:=Int×(List GRat)×(List Int)) (0,q2,order) λ⟨x7,q3,order1⟩ next5=>
          aj (decide (x7<(((at' groups x1).Members).length:Int)))
           (((0:Int)<=x7/\x7<(((at' groups x1).Members).length:Int))/\
           eF r2 λr5=>
           ((0:Int)<=(at' ((at' groups x1).Members) x7)/\(at' ((at' groups x1).Members) x7)<(q3.length:Int))/\
           ((order1++[(at' ((at' groups x1).Members) x7)]).length*8<=140737488355328)/\
           rng (x7+1)/\
           next5 ((x7+1),(b8 q3 (at' ((at' groups x1).Members) x7) r5),(order1++[(at' ((at' groups x1).Members) x7)])))
           (rng (x1+1)/\
           next2 ((x1+1),q3,x4,order1)))))
      (cq (α:=Bool×(List (Int×List Int))) (λnext10=>
       aj (decide (24<(q1.length:Int)))
        (next10 (true,x2))
        (rng ((order.length:Int)+(f.Nodes.length:Int))/\
        next10 ((decide (128<((order.length:Int)+(f.Nodes.length:Int)))),x2)))
       λ⟨x8,x9⟩=>
       aj x8
        (Q (⟨0,[],0⟩:GFormula) [] (some 4))
        (m5 8 f.Vars f.Vars/\
        bg (σ:=Int×(List Int)) (0,(eN f.Vars 0)) λ⟨x10,to⟩ next6=>
         aj (decide (x10<((Int.toNat f.Vars):Int)))
          (((0:Int)<=x10/\x10<(to.length:Int))/\
          rng (x10+1)/\
          next6 ((x10+1),(b8 to x10 x10)))
          (bg (σ:=Int×(List Int)×(List GNode)) (0,to,[]) λ⟨x11,to1,x12⟩ next7=>
           aj (decide (x11<(order.length:Int)))
            (((0:Int)<=x11/\x11<(order.length:Int))/\
            rng ((q1.length:Int)+(x12.length:Int))/\
            ((0:Int)<=(at' order x11)/\(at' order x11)<(to1.length:Int))/\
            aj (decide (bx x9 (at' order x11)<x9.length))
             ((([(at' order x11)]++(cg x9 (at' order x11))).length*8<=140737488355328)/\
             ((x12++[(⟨3,0,([(at' order x11)]++(cg x9 (at' order x11)))⟩:GNode)]).length*40<=140737488355328)/\
             rng (x11+1)/\
             next7 ((x11+1),(b8 to1 (at' order x11) ((q1.length:Int)+(x12.length:Int))),(x12++[(⟨3,0,([(at' order x11)]++(cg x9 (at' order x11)))⟩:GNode)])))
             ((([(at' order x11)]++[]).length*8<=140737488355328)/\
             ((x12++[(⟨3,0,([(at' order x11)]++[])⟩:GNode)]).length*40<=140737488355328)/\
             rng (x11+1)/\
             next7 ((x11+1),(b8 to1 (at' order x11) ((q1.length:Int)+(x12.length:Int))),(x12++[(⟨3,0,([(at' order x11)]++[])⟩:GNode)]))))
            (bg (σ:=Int×(List Int)×(List GNode)) (0,to1,x12) λ⟨x13,to2,x14⟩ next8=>
             aj (decide (x13<(f.Nodes.length:Int)))
              (((0:Int)<=x13/\x13<(f.Nodes.length:Int))/\
              bg (σ:=Int×(List Int)) (0,[]) λ⟨x15,x16⟩ next9=>
               aj (decide (x15<(((at' f.Nodes x13).Args).length:Int)))
                (((0:Int)<=x15/\x15<(((at' f.Nodes x13).Args).length:Int))/\
                ((0:Int)<=(at' ((at' f.Nodes x13).Args) x15)/\(at' ((at' f.Nodes x13).Args) x15)<(to2.length:Int))/\
                ((x16++[(at' to2 (at' ((at' f.Nodes x13).Args) x15))]).length*8<=140737488355328)/\
                rng (x15+1)/\
                next9 ((x15+1),(x16++[(at' to2 (at' ((at' f.Nodes x13).Args) x15))])))
                (rng ((q1.length:Int)+(x14.length:Int))/\
                ((to2++[((q1.length:Int)+(x14.length:Int))]).length*8<=140737488355328)/\
                ((x14++[(⟨(at' f.Nodes x13).Kind,(at' f.Nodes x13).K,x16⟩:GNode)]).length*40<=140737488355328)/\
                rng (x13+1)/\
                next8 ((x13+1),(to2++[((q1.length:Int)+(x14.length:Int))]),(x14++[(⟨(at' f.Nodes x13).Kind,(at' f.Nodes x13).K,x16⟩:GNode)]))))
              (((0:Int)<=f.Top/\f.Top<(to2.length:Int))/\
              Q (⟨(q1.length:Int),x14,(at' to2 f.Top)⟩:GFormula) q1 none)))))))
end Go.Gg
namespace Go.Gg
def fh (l:List GRat) (Q:Bool->Prop):Prop:=
 bg (σ:=Int) 0 λx next1=>
  aj (decide (x<(l.length:Int)))
   (((0:Int)<=x/\x<(l.length:Int))/\
   eP (at' l x) λr=>
   aj (!r)
    (Q false)
    (rng (x+1)/\
    next1 (x+1)))
   (Q true)
def gx (f:GFormula) (p:List GRat) (g1:GCauseGroup) (before:List Int) (Q:Int->Prop):Prop:=
 cq (α:=Int×Int) (λnext5=>
  aj (g1.Kind == 1)
   (rng ((g1.Members.length:Int)-1)/\
   next5 (4,((g1.Members.length:Int)-1)))
   (next5 (24,1)))
  λ⟨most,factors⟩=>
  cq (α:=Unit) (λnext4=>
   aj (g1.Kind != 0)
    (aj (g1.Kind != 1)
     (Q 7)
     (next4 ()))
    (next4 ()))
   λ_=>
   aj (decide ((g1.Members.length:Int)<2))
    (Q 11)
    (aj (decide (most<(g1.Members.length:Int)))
     (Q 11)
     (aj ((g1.Factors.length:Int) != factors)
      (Q 11)
      (((([]:List Int)++before).length*8<=140737488355328)/\
      bg (σ:=Int×(List Int)) (0,(([]:List Int)++before)) λ⟨x,seen⟩ next1=>
       aj (decide (x<(g1.Members.length:Int)))
        (((0:Int)<=x/\x<(g1.Members.length:Int))/\
        aj (decide ((at' g1.Members x)<0))
         (Q 10)
         (aj (decide (f.Vars<=(at' g1.Members x)))
          (Q 10)
          (bg (σ:=Int) 0 λx1 next2=>
           aj (decide (x1<(seen.length:Int)))
            (((0:Int)<=x1/\x1<(seen.length:Int))/\
            aj ((at' seen x1) == (at' g1.Members x))
             (Q 6)
             (rng (x1+1)/\
             next2 (x1+1)))
            (((seen++[(at' g1.Members x)]).length*8<=140737488355328)/\
            rng (x+1)/\
            next1 ((x+1),(seen++[(at' g1.Members x)]))))))
        (fh g1.Factors λr=>
        aj (!r)
         (Q 3)
         (bg (σ:=Int) 0 λx2 next3=>
          aj (decide (x2<(g1.Members.length:Int)))
           (((0:Int)<=x2/\x2<(g1.Members.length:Int))/\
           ((0:Int)<=(at' g1.Members x2)/\(at' g1.Members x2)<(p.length:Int))/\
           ((0:Int)<=0/\0<(g1.Members.length:Int))/\
           ((0:Int)<=(at' g1.Members 0)/\(at' g1.Members 0)<(p.length:Int))/\
           cI (fF (at' p (at' g1.Members x2)) (at' p (at' g1.Members 0))) λr1=>
           aj (r1 != 0)
            (Q 3)
            (rng (x2+1)/\
            next3 (x2+1)))
           (Q 0))))))
def jx (f:GFormula) (p:List GRat) (groups:List GCauseGroup) (Q:Int->Prop):Prop:=
 jz f λe=>
 aj (e != 0)
  (Q e)
  (aj ((p.length:Int) != f.Vars)
   (Q 11)
   (fh p λr=>
   aj (!r)
    (Q 3)
    (bg (σ:=Int×(List Int)) (0,[]) λ⟨x,before⟩ next1=>
     aj (decide (x<(groups.length:Int)))
      (((0:Int)<=x/\x<(groups.length:Int))/\
      gx f p (at' groups x) before λe1=>
      aj (e1 != 0)
       (Q e1)
       (((before++(at' groups x).Members).length*8<=140737488355328)/\
       rng (x+1)/\
       next1 ((x+1),(before++(at' groups x).Members))))
      (Q 0))))
def eO (x:GRat) (Q:GRat->Prop):Prop:=
 cI (eo 1) λr=>
 cI (ek r x) λr1=>
 Q r1
def j4 (p:GRat) (beta:GRat) (Q:GRat->GRat->Int->Prop):Prop:=
 cq (α:=Bool) (λnext1=>
  eP p λr7=>
  aj (!r7)
   (next1 true)
   (eP beta λr8=>
   next1 (!r8)))
  λx=>
  aj x
   (Q (⟨false,[],[]⟩:GRat) (⟨false,[],[]⟩:GRat) 3)
   (eq beta p λr=>
   eO r λr1=>
   dM r1 λr2=>
   aj (r2 == 0)
    (Q (⟨false,[],[]⟩:GRat) r 0)
    (cI (ek p r) λr3=>
    cI (eO r) λr4=>
    pZ (fE r3 r4) λr5 _=>
    Q r5 r 0))
def iV (n:Int) (k1:Int) (Q:Int->Prop):Prop:=
 bg (σ:=Int×Int) (1,0) λ⟨out,x⟩ next1=>
  aj (decide (x<k1))
   (rng (n-x)/\
   rng (out*(n-x))/\
   rng (x+1)/\
   ((x+1)≠0/\rng (Int.tdiv (out*(n-x)) (x+1)))/\
   rng (x+1)/\
   next1 ((Int.tdiv (out*(n-x)) (x+1)),(x+1)))
   (Q out)
def jw (p:GRat) (factors:List GRat) (Q:List GRat->Int->Prop):Prop:=
 cq (α:=Bool) (λnext4=>
  eP p λr7=>
  aj (!r7)
   (next4 true)
   (fh factors λr8=>
   next4 (!r8)))
  λx=>
  aj x
   (Q [] 3)
   (cq (α:=Bool) (λnext3=>
    aj (decide ((factors.length:Int)<1))
     (next3 true)
     (next3 (decide (3<(factors.length:Int)))))
    λx1=>
    aj x1
     (Q [] 11)
     (rng ((factors.length:Int)+1)/\
     bg (σ:=Int×GRat×(List GRat)) (1,p,[]) λ⟨k1,x2,out⟩ next1=>
      aj (decide (k1<=((factors.length:Int)+1)))
       (cq (α:=GRat×GRat) (λnext2=>
        aj (decide (k1<((factors.length:Int)+1)))
         (rng (k1-1)/\
         ((0:Int)<=(k1-1)/\(k1-1)<(factors.length:Int))/\
         cI (eO (at' factors (k1-1))) λr4=>
         cI (eq x2 r4) λr5=>
         rng (k1-1)/\
         ((0:Int)<=(k1-1)/\(k1-1)<(factors.length:Int))/\
         cI (eq x2 (at' factors (k1-1))) λr6=>
         next2 (r6,r5))
         (next2 (x2,x2)))
        λ⟨x3,x4⟩=>
        rng (((factors.length:Int)+1)-1)/\
        rng (k1-1)/\
        cI (iV (((factors.length:Int)+1)-1) (k1-1)) λr=>
        cI (eo r) λr1=>
        pZ (fE x4 r1) λr2 _=>
        ((out++[r2]).length*56<=140737488355328)/\
        rng (k1+1)/\
        next1 ((k1+1),x3,(out++[r2])))
       (Q out 0)))
def iW (g1:GCauseGroup) (p:GRat) (Q:List Int->List GRat->GRat->Prop):Prop:=
 aj (g1.Kind == 0)
  (((0:Int)<=0/\0<(g1.Factors.length:Int))/\
  uY (j4 p (at' g1.Factors 0)) λr r1 _=>
  (((0:Int)<=(g1.Members.length:Int)/\(g1.Members.length:Int)<=64)/\rng (1*2^(Int.toNat (g1.Members.length:Int))))/\
  rng ((1*2^(Int.toNat (g1.Members.length:Int)))-1)/\
  Q [((1*2^(Int.toNat (g1.Members.length:Int)))-1)] [r1] r)
  (jw p g1.Factors λr3 _=>
  bg (σ:=Int×(List Int)×(List GRat)) (1,[],[]) λ⟨set,sets,probs⟩ next1=>
   (((0:Int)<=(g1.Members.length:Int)/\(g1.Members.length:Int)<=64)/\rng (1*2^(Int.toNat (g1.Members.length:Int))))/\
   aj (decide (set<(1*2^(Int.toNat (g1.Members.length:Int)))))
    (bg (σ:=Int×Int) (0,0) λ⟨size,x⟩ next2=>
     aj (decide (x<(g1.Members.length:Int)))
      (((0:Int)<=x/\x<=64)/\
      rng (size+(bits .and .i64 (set / 2^(Int.toNat x)) 1))/\
      h9 (size+(bits .and .i64 (set / 2^(Int.toNat x)) 1)) λsize1=>
      rng (x+1)/\
      next2 (size1,(x+1)))
      (aj (decide (1<size))
       (((sets++[set]).length*8<=140737488355328)/\
       rng (size-1)/\
       ((0:Int)<=(size-1)/\(size-1)<(r3.length:Int))/\
       ((probs++[(at' r3 (size-1))]).length*56<=140737488355328)/\
       rng (set+1)/\
       next1 ((set+1),(sets++[set]),(probs++[(at' r3 (size-1))])))
       (rng (set+1)/\
       next1 ((set+1),sets,probs))))
    (((0:Int)<=0/\0<(r3.length:Int))/\
    Q sets probs (at' r3 0)))
def eh (f:GFormula) (p:List GRat) (groups:List GCauseGroup) (set:Int) (Q:Int->Prop):Prop:=
 (((0:Int)<=f.Vars/\f.Vars<=64)/\rng (1*2^(Int.toNat f.Vars)))/\
 rng ((1*2^(Int.toNat f.Vars))-1)/\
 bg (σ:=Int×Int×Int) (f.Vars,(bits .and .i64 set ((1*2^(Int.toNat f.Vars))-1)),0) λ⟨at1,out,x⟩ next1=>
  aj (decide (x<(groups.length:Int)))
   (((0:Int)<=x/\x<(groups.length:Int))/\
   ((0:Int)<=0/\0<(((at' groups x).Members).length:Int))/\
   ((0:Int)<=(at' ((at' groups x).Members) 0)/\(at' ((at' groups x).Members) 0)<(p.length:Int))/\
   uY (iW (at' groups x) (at' p (at' ((at' groups x).Members) 0))) λr _ _=>
   bg (σ:=Int×Int×Int) (at1,out,0) λ⟨at2,out1,x1⟩ next2=>
    aj (decide (x1<(r.length:Int)))
     (((0:Int)<=x1/\x1<(r.length:Int))/\
     bg (σ:=Int×Int) (out1,0) λ⟨out2,x2⟩ next3=>
      aj (decide (x2<(((at' groups x).Members).length:Int)))
       (((0:Int)<=x2/\x2<(((at' groups x).Members).length:Int))/\
       cq (α:=Bool) (λnext4=>
        ((0:Int)<=at2/\at2<=64)/\
        aj ((bits .and .i64 (set / 2^(Int.toNat at2)) 1) == 1)
         (((0:Int)<=x2/\x2<=64)/\
         next4 ((bits .and .i64 ((at' r x1) / 2^(Int.toNat x2)) 1) == 1))
         (next4 false))
        λx3=>
        aj x3
         ((((0:Int)<=(at' ((at' groups x).Members) x2)/\(at' ((at' groups x).Members) x2)<=64)/\rng (1*2^(Int.toNat (at' ((at' groups x).Members) x2))))/\
         h9 (bits .or .i64 out2 (1*2^(Int.toNat (at' ((at' groups x).Members) x2)))) λout3=>
         rng (x2+1)/\
         next3 (out3,(x2+1)))
         (rng (x2+1)/\
         next3 (out2,(x2+1))))
       (rng (at2+1)/\
       rng (x1+1)/\
       next2 ((at2+1),out2,(x1+1))))
     (rng (x+1)/\
     next1 (at2,out1,(x+1))))
   (Q out)
end Go.Gg
namespace Go.Gg
def cd (n:Int) (d:Int) (Q:GRat->Prop):Prop:=
 iE n d λr _=>
 Q r
def gN (Q:Bool->Prop):Prop:=
 cd 1 10 λr=>
 cd 1 2 λr1=>
 gR r r1 λr2 r3 r4=>
 eo 1 λr5=>
 cd 1 2 λr6=>
 cd 1 3 λr7=>
 gh r5 [r6,r7] λr8 r9=>
 aj (Option.isNone r4)
  (aj (Option.isNone r9)
   (cI (cd 1 19) λr10=>
   cI (fB r2 r10) λr11=>
   aj r11
    (cI (cd 1 20) λr12=>
    cI (fB r3 r12) λr13=>
    aj r13
     (cI (cd 1 2) λr14=>
     cI (cd 1 6) λr15=>
     cI (cd 1 6) λr16=>
     cI (jq r8 [r14,r15,r16]) λr17=>
     Q r17)
     (Q false))
    (Q false))
   (Q false))
  (Q false)
def gM (l:List GRat) (Q:Bool->Prop):Prop:=
 bg (σ:=Int) 0 λx next1=>
  aj (decide (x<(l.length:Int)))
   (((0:Int)<=x/\x<(l.length:Int))/\
   jH (at' l x) λr=>
   aj (!r)
    (Q false)
    (rng (x+1)/\
    next1 (x+1)))
   (Q (decide ((l.length:Int)<=60)))
def jG (l:List GCauseGroup) (Q:Bool->Prop):Prop:=
 bg (σ:=Int) 0 λx next1=>
  aj (decide (x<(l.length:Int)))
   (((0:Int)<=x/\x<(l.length:Int))/\
   aj (decide (60<(((at' l x).Members).length:Int)))
    (Q false)
    (gM ((at' l x).Factors) λr=>
    aj (!r)
     (Q false)
     (rng (x+1)/\
     next1 (x+1))))
   (Q (decide ((l.length:Int)<=30)))
end Go.Gg
namespace Go.Gg
def gq (f:GFormula) (x:GCauses) (set:Int) (Q:Bool->Prop):Prop:=
 cq (α:=Bool) (λnext1=>
  gN λr11=>
  aj (!r11)
   (next1 true)
   (jI f λr12=>
   aj (!r12)
    (next1 true)
    (gM x.P λr13=>
    aj (!r13)
     (next1 true)
     (jG x.Groups λr14=>
     next1 (!r14)))))
  λx1=>
  aj x1
   (gN λr=>
   Q r)
   (iv f x.P x.Groups λr1 r2 r3=>
   aj (Option.isSome r3)
    (Q ((r2.length:Int) == 0))
    (dY r1 λr4=>
    aj (Option.isSome r4)
     (Q false)
     (aj ((r2.length:Int) != r1.Vars)
      (Q false)
      (aj (decide (r1.Vars<f.Vars))
       (Q false)
       (jx f x.P x.Groups λr5=>
       aj (r5 != 0)
        (Q false)
        ((((0:Int)<=r1.Vars/\r1.Vars<=64)/\rng (1*2^(Int.toNat r1.Vars)))/\
        rng ((1*2^(Int.toNat r1.Vars))-1)/\
        h9 (bits .and .i64 set ((1*2^(Int.toNat r1.Vars))-1)) λset1=>
        fu r1 set1 λr6 r7=>
        cI (eh f x.P x.Groups set1) λr8=>
        pZ (fu f r8) λr9 r10=>
        aj (Option.isNone r7)
         (aj (Option.isNone r10)
          (Q (r6 == r9))
          (Q false))
         (Q false)))))))
end Go.Gg
