/- The structures of the program and how they are encoded. Conditions: none. -/
import Derived.Test.YtnjgdkfhgmebjaaGreatGc
import Derived.Test.YtnjgdkfhgmebjaaGreatGd2
namespace Go.Gg
structure GNode where
 Kind:Int
 K:Int
 Args:List Int
instance:Inhabited GNode:=⟨⟨0,0,[]⟩⟩
def bf (r:GNode):AV:=.agg [.int .i64 r.Kind,.int .i64 r.K,eL (AV.int .i64) r.Args]
structure GFormula where
 Vars:Int
 Nodes:List GNode
 Top:Int
instance:Inhabited GFormula:=⟨⟨0,[],0⟩⟩
def ay (r:GFormula):AV:=.agg [.int .i64 r.Vars,eL bf r.Nodes,.int .i64 r.Top]
structure GRat where
 Neg:Bool
 Num:List Int
 Den:List Int
instance:Inhabited GRat:=⟨⟨false,[],[]⟩⟩
def ac (r:GRat):AV:=.agg [.bool r.Neg,eL (AV.int .u32) r.Num,eL (AV.int .u32) r.Den]
structure GCauseGroup where
 Kind:Int
 Members:List Int
 Factors:List GRat
instance:Inhabited GCauseGroup:=⟨⟨0,[],[]⟩⟩
def ak (r:GCauseGroup):AV:=.agg [.int .i64 r.Kind,eL (AV.int .i64) r.Members,eL ac r.Factors]
structure GCauses where
 P:List GRat
 Groups:List GCauseGroup
instance:Inhabited GCauses:=⟨⟨[],[]⟩⟩
def lj (r:GCauses):AV:=.agg [eL ac r.P,eL ak r.Groups]
structure GMission where
 Phases:List GFormula
 P:List (List GRat)
instance:Inhabited GMission:=⟨⟨[],[]⟩⟩
structure GCube where
 Yes:Int
 No:Int
instance:Inhabited GCube:=⟨⟨0,0⟩⟩
structure Gcause where
 p:GRat
 members:List Int
instance:Inhabited Gcause:=⟨⟨default,[]⟩⟩
def dS (r:Gcause):AV:=.agg [.bool r.p.Neg,eL (AV.int .u32) r.p.Num,eL (AV.int .u32) r.p.Den,eL (AV.int .i64) r.members]
structure GDNode where
 Var:Int
 Lo:Int
 Hi:Int
instance:Inhabited GDNode:=⟨⟨0,0,0⟩⟩
structure GDiagram where
 Order:List Int
 Nodes:List GDNode
 Root:Int
instance:Inhabited GDiagram:=⟨⟨[],[],0⟩⟩
structure GZero where
 Nodes:List GDNode
 Root:Int
instance:Inhabited GZero:=⟨⟨[],0⟩⟩
structure Gtable where
 events:List Int
 true:List Bool
instance:Inhabited Gtable:=⟨⟨[],[]⟩⟩
structure Gwalk where
 Formula:GFormula
 events:List Int
 seen:List Bool
instance:Inhabited Gwalk:=⟨⟨default,[],[]⟩⟩
structure GsetsKey where
 op:Int
 a:Int
 b:Int
instance:Inhabited GsetsKey:=⟨⟨0,0,0⟩⟩
end Go.Gg
namespace Go.Gg
def eS:ByteArray:=⟨#[0,1,2,2,3,3,3,3,4,4,4,4,4,4,4,4,5,5,5,5,5,5,5,5,5,5,5,5,5,5,5,5,6,6,6,6,6,6,6,6,6,6,6,6,6,6,6,6,6,6,6,6,6,6,6,6,6,6,6,6,6,6,6,6,7,7,7,7,7,7,7,7,7,7,7,7,7,7,7,7,7,7,7,7,7,7,7,7,7,7,7,7,7,7,7,7,7,7,7,7,7,7,7,7,7,7,7,7,7,7,7,7,7,7,7,7,7,7,7,7,7,7,7,7,7,7,7,7,8,8,8,8,8,8,8,8,8,8,8,8,8,8,8,8,8,8,8,8,8,8,8,8,8,8,8,8,8,8,8,8,8,8,8,8,8,8,8,8,8,8,8,8,8,8,8,8,8,8,8,8,8,8,8,8,8,8,8,8,8,8,8,8,8,8,8,8,8,8,8,8,8,8,8,8,8,8,8,8,8,8,8,8,8,8,8,8,8,8,8,8,8,8,8,8,8,8,8,8,8,8,8,8,8,8,8,8,8,8,8,8,8,8,8,8,8,8,8,8,8,8,8,8,8,8,8,8]⟩
def bu (a:List Int) (Q:List Int->Prop):Prop:=
 cC (α:=Int) (λnext1=>
  bd (σ:=Int) (a.length:Int) λn1 next2=>
   aj (decide (0<n1))
    (rng (n1-1)/\
    ((0:Int)<=(n1-1)/\(n1-1)<(a.length:Int))/\
    aj ((at' a (n1-1)) == 0)
     (rng (n1-1)/\
     next2 (n1-1))
     (next1 n1))
    (next1 n1))
  λn=>
  aj (n == 0)
   (Q [])
   (((0:Int)<=0/\0<=n/\n<=(a.length:Int))/\
   ((([]:List Int)++(f8 a 0 n)).length*4<=140737488355328)/\
   Q (([]:List Int)++(f8 a 0 n)))
def cO (a:List Int) (b:List Int) (Q:Int->Prop):Prop:=
 bu a λa1=>
 bu b λb1=>
 aj ((a1.length:Int) != (b1.length:Int))
  (aj (decide ((a1.length:Int)<(b1.length:Int)))
   (Q (-1))
   (Q 1))
  (rng ((a1.length:Int)-1)/\
  bd (σ:=Int) ((a1.length:Int)-1) λi next1=>
   aj (decide (0<=i))
    (((0:Int)<=i/\i<(a1.length:Int))/\
    ((0:Int)<=i/\i<(b1.length:Int))/\
    aj (decide ((at' a1 i)<(at' b1 i)))
     (Q (-1))
     (((0:Int)<=i/\i<(a1.length:Int))/\
     ((0:Int)<=i/\i<(b1.length:Int))/\
     aj (decide ((at' b1 i)<(at' a1 i)))
      (Q 1)
      (rng (i-1)/\
      next1 (i-1))))
    (Q 0))
def ip (n:Int) (Q:List Int->Prop):Prop:=
 aj (decide (n<=0))
  (Q [])
  (bu [(IntKind.wrap .u32 n),(IntKind.wrap .u32 (n / 2^(Int.toNat 32)))] λr=>
  Q r)
def fw (a:List Int) (b:Int) (Q:List Int->Int->Prop):Prop:=
 mL 4 (a.length:Int) (a.length:Int)/\
 rng ((a.length:Int)-1)/\
 bd (σ:=Int×Int×(List Int)) (0,((a.length:Int)-1),(fh (a.length:Int) 0)) λ⟨rest,i,out⟩ next1=>
  aj (decide (0<=i))
   (((0:Int)<=i/\i<(a.length:Int))/\
   iE (bits .or .u64 (IntKind.wrap .u64 (rest*2^(Int.toNat 32))) (IntKind.wrap .u64 (at' a i))) λrest1=>
   (IntKind.wrap .u64 b)≠0/\
   ((0:Int)<=i/\i<(out.length:Int))/\
   (IntKind.wrap .u64 b)≠0/\
   rng (i-1)/\
   next1 ((Int.tmod rest1 (IntKind.wrap .u64 b)),(i-1),(cg out i (IntKind.wrap .u32 (IntKind.wrap .u64 (Int.tdiv rest1 (IntKind.wrap .u64 b)))))))
   (bu out λr=>
   Q r (IntKind.wrap .u32 rest))
def eA (x:Int) (Q:Int->Prop):Prop:=
 cC (α:=Int×Int) (λnext2=>
  aj (decide (65536<=x))
   (next2 ((x / 2^(Int.toNat 16)),16))
   (next2 (x,0)))
  λ⟨x1,n⟩=>
  cC (α:=Int×Int) (λnext1=>
   aj (decide (256<=x1))
    (rng (n+8)/\
    next1 ((x1 / 2^(Int.toNat 8)),(n+8)))
    (next1 (x1,n)))
   λ⟨x2,n1⟩=>
   ((0:Int)<=(IntKind.wrap .u8 x2)/\(IntKind.wrap .u8 x2)<(eS.size:Int))/\
   rng (n1+(IntKind.wrap .i64 (l8 eS (Int.toNat (IntKind.wrap .u8 x2)))))/\
   iE (n1+(IntKind.wrap .i64 (l8 eS (Int.toNat (IntKind.wrap .u8 x2))))) λn2=>
   Q n2
def dj (x:Int) (Q:Int->Prop):Prop:=
 eA x λr=>
 rng (32-r)/\
 Q (32-r)
def di (a:List Int) (n:Int) (Q:List Int->Prop):Prop:=
 rng ((a.length:Int)+1)/\
 mL 4 ((a.length:Int)+1) ((a.length:Int)+1)/\
 bd (σ:=Int×(List Int)) (0,(fh ((a.length:Int)+1) 0)) λ⟨x,out⟩ next1=>
  aj (decide (x<(a.length:Int)))
   (((0:Int)<=x/\x<(a.length:Int))/\
   ((0:Int)<=n/\n<=64)/\
   iE (IntKind.wrap .u64 ((IntKind.wrap .u64 (at' a x))*2^(Int.toNat n))) λy1=>
   ((0:Int)<=x/\x<(out.length:Int))/\
   ((0:Int)<=x/\x<(out.length:Int))/\
   rng (x+1)/\
   ((0:Int)<=(x+1)/\(x+1)<(out.length:Int))/\
   rng (x+1)/\
   next1 ((x+1),(cg (cg out x (bits .or .u32 (at' out x) (IntKind.wrap .u32 y1))) (x+1) (IntKind.wrap .u32 (y1 / 2^(Int.toNat 32))))))
   (Q out)
def cc (a:List Int) (i:Int) (Q:Int->Prop):Prop:=
 aj (decide (i<(a.length:Int)))
  (((0:Int)<=i/\i<(a.length:Int))/\
  Q (IntKind.wrap .u64 (at' a i)))
  (Q 0)
def iP (u:List Int) (uo:Nat) (ul:Nat) (v:List Int) (n:Int) (Q:List Int->Bool->Prop):Prop:=
 bd (σ:=Int×Int×Int×(List Int)) (0,0,0,u) λ⟨carry,borrow,x,u1⟩ next1=>
  aj (decide (x<(ul:Int)))
   (cc v x λr=>
   iE (IntKind.wrap .u64 (carry+(IntKind.wrap .u64 (n*r)))) λcarry1=>
   ((0:Int)<=x/\x<(ul:Int))/\
   (Int.toNat ((uo:Int)+x))<u1.length/\
   iE (IntKind.wrap .u64 ((IntKind.wrap .u64 ((IntKind.wrap .u64 (at' u1 ((uo:Int)+x)))-(IntKind.wrap .u64 (IntKind.wrap .u32 carry1))))-borrow)) λd=>
   ((0:Int)<=x/\x<(ul:Int))/\
   (Int.toNat ((uo:Int)+x))<u1.length/\
   rng (x+1)/\
   next1 ((carry1 / 2^(Int.toNat 32)),(d / 2^(Int.toNat 63)),(x+1),(cg u1 ((uo:Int)+x) (IntKind.wrap .u32 d))))
   (Q u1 (borrow == 1))
def iQ (u:List Int) (uo:Nat) (ul:Nat) (v:List Int) (Q:List Int->Prop):Prop:=
 bd (σ:=Int×Int×(List Int)) (0,0,u) λ⟨carry,x,u1⟩ next1=>
  aj (decide (x<(ul:Int)))
   (((0:Int)<=x/\x<(ul:Int))/\
   (Int.toNat ((uo:Int)+x))<u1.length/\
   cP (cc v x) λr=>
   ((0:Int)<=x/\x<(ul:Int))/\
   (Int.toNat ((uo:Int)+x))<u1.length/\
   iE ((IntKind.wrap .u64 (carry+(IntKind.wrap .u64 ((IntKind.wrap .u64 (at' u1 ((uo:Int)+x)))+r)))) / 2^(Int.toNat 32)) λcarry1=>
   rng (x+1)/\
   next1 (carry1,(x+1),(cg u1 ((uo:Int)+x) (IntKind.wrap .u32 (IntKind.wrap .u64 (carry+(IntKind.wrap .u64 ((IntKind.wrap .u64 (at' u1 ((uo:Int)+x)))+r))))))))
   (Q u1)
def fx (a:List Int) (n:Int) (Q:List Int->Prop):Prop:=
 mL 4 (a.length:Int) (a.length:Int)/\
 bd (σ:=Int×(List Int)) (0,(fh (a.length:Int) 0)) λ⟨x,out⟩ next1=>
  aj (decide (x<(a.length:Int)))
   (cc a x λr=>
   rng (x+1)/\
   cc a (x+1) λr1=>
   ((0:Int)<=n/\n<=64)/\
   ((0:Int)<=x/\x<(out.length:Int))/\
   rng (x+1)/\
   next1 ((x+1),(cg out x (IntKind.wrap .u32 ((bits .or .u64 r (IntKind.wrap .u64 (r1*2^(Int.toNat 32)))) / 2^(Int.toNat n))))))
   (Q out)
def fu (a:List Int) (b:List Int) (Q:List Int->List Int->Option Int->Prop):Prop:=
 bu a λa1=>
 bu b λb1=>
 aj ((b1.length:Int) == 0)
  (Q [] [] (some 8))
  (cO a1 b1 λr=>
  aj (decide (r<0))
   (Q [] a1 none)
   (aj ((b1.length:Int) == 1)
    (((0:Int)<=0/\0<(b1.length:Int))/\
    fw a1 (at' b1 0) λr1 r2=>
    ip (IntKind.wrap .i64 r2) λr3=>
    Q r1 r3 none)
    (rng ((b1.length:Int)-1)/\
    ((0:Int)<=((b1.length:Int)-1)/\((b1.length:Int)-1)<(b1.length:Int))/\
    dj (at' b1 ((b1.length:Int)-1)) λn=>
    di b1 n λr4=>
    ((0:Int)<=0/\0<=(b1.length:Int)/\(b1.length:Int)<=(r4.length:Int))/\
    iE (f8 r4 0 (b1.length:Int)) λv=>
    di a1 n λu=>
    rng ((v.length:Int)-1)/\
    ((0:Int)<=((v.length:Int)-1)/\((v.length:Int)-1)<(v.length:Int))/\
    rng ((v.length:Int)-2)/\
    ((0:Int)<=((v.length:Int)-2)/\((v.length:Int)-2)<(v.length:Int))/\
    rng ((u.length:Int)-(v.length:Int))/\
    mL 4 ((u.length:Int)-(v.length:Int)) ((u.length:Int)-(v.length:Int))/\
    rng (((Int.toNat ((u.length:Int)-(v.length:Int))):Int)-1)/\
    iE (((Int.toNat ((u.length:Int)-(v.length:Int))):Int)-1) λj=>
    bd (σ:=Int×(List Int)×(List Int)) (j,u,(fh ((u.length:Int)-(v.length:Int)) 0)) λ⟨j1,u1,q⟩ next1=>
     aj (decide (0<=j1))
      (rng (j1+(v.length:Int))/\
      ((0:Int)<=(j1+(v.length:Int))/\(j1+(v.length:Int))<(u1.length:Int))/\
      rng (j1+(v.length:Int))/\
      rng ((j1+(v.length:Int))-1)/\
      ((0:Int)<=((j1+(v.length:Int))-1)/\((j1+(v.length:Int))-1)<(u1.length:Int))/\
      (IntKind.wrap .u64 (at' v ((v.length:Int)-1)))≠0/\
      (IntKind.wrap .u64 (at' v ((v.length:Int)-1)))≠0/\
      cC (α:=Int) (λnext3=>
       bd (σ:=Int×Int) ((IntKind.wrap .u64 (Int.tdiv (bits .or .u64 (IntKind.wrap .u64 ((IntKind.wrap .u64 (at' u1 (j1+(v.length:Int))))*2^(Int.toNat 32))) (IntKind.wrap .u64 (at' u1 ((j1+(v.length:Int))-1)))) (IntKind.wrap .u64 (at' v ((v.length:Int)-1))))),(Int.tmod (bits .or .u64 (IntKind.wrap .u64 ((IntKind.wrap .u64 (at' u1 (j1+(v.length:Int))))*2^(Int.toNat 32))) (IntKind.wrap .u64 (at' u1 ((j1+(v.length:Int))-1)))) (IntKind.wrap .u64 (at' v ((v.length:Int)-1))))) λ⟨guess2,rest⟩ next4=>
        cC (α:=Unit) (λnext5=>
         aj (decide (4294967296<=guess2))
          (next5 ())
          (rng (j1+(v.length:Int))/\
          rng ((j1+(v.length:Int))-2)/\
          ((0:Int)<=((j1+(v.length:Int))-2)/\((j1+(v.length:Int))-2)<(u1.length:Int))/\
          aj (decide ((bits .or .u64 (IntKind.wrap .u64 (rest*2^(Int.toNat 32))) (IntKind.wrap .u64 (at' u1 ((j1+(v.length:Int))-2))))<(IntKind.wrap .u64 (guess2*(IntKind.wrap .u64 (at' v ((v.length:Int)-2)))))))
           (next5 ())
           (next3 guess2)))
         λ_=>
         iE (IntKind.wrap .u64 (rest+(IntKind.wrap .u64 (at' v ((v.length:Int)-1))))) λrest1=>
         aj (decide (4294967296<=rest1))
          (next3 (IntKind.wrap .u64 (guess2-1)))
          (next4 ((IntKind.wrap .u64 (guess2-1)),rest1)))
       λguess=>
       cC (α:=Int×(List Int)) (λnext2=>
        rng (j1+(v.length:Int))/\
        rng ((j1+(v.length:Int))+1)/\
        ((0:Int)<=j1/\j1<=((j1+(v.length:Int))+1)/\((j1+(v.length:Int))+1)<=(u1.length:Int))/\
        iP u1 (0+Int.toNat j1) (Int.toNat ((j1+(v.length:Int))+1)-Int.toNat j1) v guess λu3 r5=>
        u3.length=u1.length/\
        aj r5
         (rng (j1+(v.length:Int))/\
         rng ((j1+(v.length:Int))+1)/\
         ((0:Int)<=j1/\j1<=((j1+(v.length:Int))+1)/\((j1+(v.length:Int))+1)<=(u1.length:Int))/\
         iQ u3 (0+Int.toNat j1) (Int.toNat ((j1+(v.length:Int))+1)-Int.toNat j1) v λu4=>
         u4.length=u3.length/\
         next2 ((IntKind.wrap .u64 (guess-1)),u4))
         (next2 (guess,u3)))
        λ⟨guess1,u2⟩=>
        ((0:Int)<=j1/\j1<(q.length:Int))/\
        rng (j1-1)/\
        next1 ((j1-1),u2,(cg q j1 (IntKind.wrap .u32 guess1))))
      (bu q λq1=>
      fx u1 n λr6=>
      bu r6 λr7=>
      Q q1 r7 none))))
def gC (a:List Int) (b:List Int) (Q:List Int->Prop):Prop:=
 bu a λa1=>
 bu b λb1=>
 bd (σ:=(List Int)×(List Int)) (a1,b1) λ⟨a2,b2⟩ next1=>
  aj (decide (0<(b2.length:Int)))
   (fu a2 b2 λ_ r1 _=>
   next1 (b2,r1))
   (Q a2)
def cx (a:List Int) (b:List Int) (Q:List Int->Prop):Prop:=
 rng ((a.length:Int)+(b.length:Int))/\
 mL 4 ((a.length:Int)+(b.length:Int)) ((a.length:Int)+(b.length:Int))/\
 bd (σ:=Int×(List Int)) (0,(fh ((a.length:Int)+(b.length:Int)) 0)) λ⟨x,out⟩ next1=>
  aj (decide (x<(a.length:Int)))
   (((0:Int)<=x/\x<(a.length:Int))/\
   bd (σ:=Int×Int×(List Int)) (0,0,out) λ⟨carry,x1,out1⟩ next2=>
    aj (decide (x1<(b.length:Int)))
     (((0:Int)<=x1/\x1<(b.length:Int))/\
     rng (x+x1)/\
     ((0:Int)<=(x+x1)/\(x+x1)<(out1.length:Int))/\
     iE (IntKind.wrap .u64 (carry+(IntKind.wrap .u64 ((IntKind.wrap .u64 ((IntKind.wrap .u64 (at' a x))*(IntKind.wrap .u64 (at' b x1))))+(IntKind.wrap .u64 (at' out1 (x+x1))))))) λcarry1=>
     rng (x+x1)/\
     ((0:Int)<=(x+x1)/\(x+x1)<(out1.length:Int))/\
     rng (x1+1)/\
     next2 ((carry1 / 2^(Int.toNat 32)),(x1+1),(cg out1 (x+x1) (IntKind.wrap .u32 carry1))))
     (rng (x+(b.length:Int))/\
     ((0:Int)<=(x+(b.length:Int))/\(x+(b.length:Int))<(out1.length:Int))/\
     rng (x+1)/\
     next1 ((x+1),(cg out1 (x+(b.length:Int)) (IntKind.wrap .u32 carry)))))
   (bu out λr=>
   Q r)
def iR (a:List Int) (Q:Int->Prop):Prop:=
 rng ((a.length:Int)-1)/\
 bd (σ:=Int) ((a.length:Int)-1) λi next1=>
  aj (decide (0<=i))
   (((0:Int)<=i/\i<(a.length:Int))/\
   aj ((at' a i) != 0)
    (rng (32*i)/\
    ((0:Int)<=i/\i<(a.length:Int))/\
    eA (at' a i) λr=>
    rng ((32*i)+r)/\
    Q ((32*i)+r))
    (rng (i-1)/\
    next1 (i-1)))
   (Q 0)
def gD (a:List Int) (b:List Int) (Q:List Int->Prop):Prop:=
 rng ((max (a.length:Int) (b.length:Int))+1)/\
 mL 4 ((max (a.length:Int) (b.length:Int))+1) ((max (a.length:Int) (b.length:Int))+1)/\
 bd (σ:=Int×Int×(List Int)) (0,0,(fh ((max (a.length:Int) (b.length:Int))+1) 0)) λ⟨carry,x,out⟩ next1=>
  aj (decide (x<((Int.toNat ((max (a.length:Int) (b.length:Int))+1)):Int)))
   (cc a x λr=>
   cc b x λr1=>
   iE (IntKind.wrap .u64 (carry+(IntKind.wrap .u64 (r+r1)))) λcarry1=>
   ((0:Int)<=x/\x<(out.length:Int))/\
   rng (x+1)/\
   next1 ((carry1 / 2^(Int.toNat 32)),(x+1),(cg out x (IntKind.wrap .u32 carry1))))
   (bu out λr2=>
   Q r2)
def gB (a:List Int) (b:List Int) (Q:List Int->Option Int->Prop):Prop:=
 cO a b λr=>
 aj (decide (r<0))
  (Q [] (some 3))
  (mL 4 (a.length:Int) (a.length:Int)/\
  bd (σ:=Int×Int×(List Int)) (0,0,(fh (a.length:Int) 0)) λ⟨borrow,x,out⟩ next1=>
   aj (decide (x<((Int.toNat (a.length:Int)):Int)))
    (cc a x λr1=>
    cc b x λr2=>
    iE (IntKind.wrap .u64 ((IntKind.wrap .u64 (r1-r2))-borrow)) λd=>
    ((0:Int)<=x/\x<(out.length:Int))/\
    rng (x+1)/\
    next1 ((d / 2^(Int.toNat 63)),(x+1),(cg out x (IntKind.wrap .u32 d))))
    (bu out λr3=>
    Q r3 none))
def fT (a:List Int) (Q:Int->Prop):Prop:=
 bd (σ:=Int×Int) (0,0) λ⟨n,x⟩ next1=>
  aj (decide (x<(a.length:Int)))
   (((0:Int)<=x/\x<(a.length:Int))/\
   bd (σ:=Int×Int) (n,0) λ⟨n1,x1⟩ next2=>
    aj (decide (x1<32))
     (((0:Int)<=x1/\x1<=32)/\
     aj ((bits .and .u32 ((at' a x) / 2^(Int.toNat x1)) 1) == 1)
      (rng (32*x)/\
      rng ((32*x)+x1)/\
      rng (((32*x)+x1)+1)/\
      rng (x1+1)/\
      next2 ((((32*x)+x1)+1),(x1+1)))
      (rng (x1+1)/\
      next2 (n1,(x1+1))))
     (rng (x+1)/\
     next1 (n1,(x+1))))
   (Q n)
def ck (a:List Int) (Q:List Int->Prop):Prop:=
 cC (α:=Int) (λnext1=>
  bd (σ:=Int) (a.length:Int) λn1 next2=>
   aj (decide (0<n1))
    (rng (n1-1)/\
    ((0:Int)<=(n1-1)/\(n1-1)<(a.length:Int))/\
    aj ((at' a (n1-1)) == 0)
     (rng (n1-1)/\
     next2 (n1-1))
     (next1 n1))
    (next1 n1))
  λn=>
  ((0:Int)<=0/\0<=n/\n<=(a.length:Int))/\
  ((([]:List Int)++(f8 a 0 n)).length*4<=140737488355328)/\
  Q (([]:List Int)++(f8 a 0 n))
def bD (a:List Int) (i:Int) (Q:Int->Prop):Prop:=
 aj (decide (i<(a.length:Int)))
  (((0:Int)<=i/\i<(a.length:Int))/\
  Q (IntKind.wrap .u64 (at' a i)))
  (Q 0)
def cQ (a:List Int) (b:List Int) (Q:List Int->Prop):Prop:=
 rng ((a.length:Int)+(b.length:Int))/\
 rng (((a.length:Int)+(b.length:Int))+1)/\
 mL 4 (((a.length:Int)+(b.length:Int))+1) (((a.length:Int)+(b.length:Int))+1)/\
 bd (σ:=Int×(List Int)) (0,(fh (((a.length:Int)+(b.length:Int))+1) 0)) λ⟨x,out⟩ next1=>
  aj (decide (x<(a.length:Int)))
   (((0:Int)<=x/\x<(a.length:Int))/\
   rng ((b.length:Int)+1)/\
   bd (σ:=Int×Int×(List Int)) (0,0,out) λ⟨carry,x1,out1⟩ next2=>
    aj (decide (x1<((b.length:Int)+1)))
     (cP (bD b x1) λr=>
     rng (x+x1)/\
     ((0:Int)<=(x+x1)/\(x+x1)<(out1.length:Int))/\
     rng (x+x1)/\
     ((0:Int)<=(x+x1)/\(x+x1)<(out1.length:Int))/\
     iE ((IntKind.wrap .u64 ((IntKind.wrap .u64 ((IntKind.wrap .u64 ((IntKind.wrap .u64 (at' a x))*r))+(IntKind.wrap .u64 (at' out1 (x+x1)))))+carry)) / 2^(Int.toNat 32)) λcarry1=>
     rng (x1+1)/\
     next2 (carry1,(x1+1),(cg out1 (x+x1) (IntKind.wrap .u32 (IntKind.wrap .u64 ((IntKind.wrap .u64 ((IntKind.wrap .u64 ((IntKind.wrap .u64 (at' a x))*r))+(IntKind.wrap .u64 (at' out1 (x+x1)))))+carry))))))
     (rng (x+1)/\
     next1 ((x+1),out1)))
   (ck out λr1=>
   Q r1)
def fG (a:List Int) (b:List Int) (Q:Int->Prop):Prop:=
 rng ((max (a.length:Int) (b.length:Int))-1)/\
 iE ((max (a.length:Int) (b.length:Int))-1) λi=>
 bd (σ:=Int) i λi1 next1=>
  aj (decide (0<=i1))
   (bD a i1 λr=>
   bD b i1 λr1=>
   aj (decide (r<r1))
    (Q (-1))
    (bD a i1 λr2=>
    bD b i1 λr3=>
    aj (decide (r3<r2))
     (Q 1)
     (rng (i1-1)/\
     next1 (i1-1))))
   (Q 0)
def gN (a:List Int) (b:List Int) (Q:List Int->Int->Prop):Prop:=
 fG a b λr=>
 aj (decide (r<0))
  (Q [] 3)
  (bd (σ:=Int×Int×(List Int)) (0,0,[]) λ⟨borrow,x,out⟩ next1=>
   aj (decide (x<(a.length:Int)))
    (bD a x λr1=>
    bD b x λr2=>
    iE (IntKind.wrap .u64 ((IntKind.wrap .u64 (r1-r2))-borrow)) λs=>
    ((out++[(IntKind.wrap .u32 s)]).length*4<=140737488355328)/\
    rng (x+1)/\
    next1 ((s / 2^(Int.toNat 63)),(x+1),(out++[(IntKind.wrap .u32 s)])))
    (ck out λr3=>
    Q r3 0))
def jT (a:List Int) (s:Int) (Q:List Int->Prop):Prop:=
 bd (σ:=Int×Int×(List Int)) (0,0,[]) λ⟨carry,x,out⟩ next1=>
  aj (decide (x<(a.length:Int)))
   (((0:Int)<=x/\x<(a.length:Int))/\
   ((0:Int)<=s/\s<=64)/\
   iE (bits .or .u64 carry (IntKind.wrap .u64 ((IntKind.wrap .u64 (at' a x))*2^(Int.toNat s)))) λcarry1=>
   ((out++[(IntKind.wrap .u32 carry1)]).length*4<=140737488355328)/\
   rng (x+1)/\
   next1 ((carry1 / 2^(Int.toNat 32)),(x+1),(out++[(IntKind.wrap .u32 carry1)])))
   (((out++[(IntKind.wrap .u32 carry)]).length*4<=140737488355328)/\
   ck (out++[(IntKind.wrap .u32 carry)]) λr=>
   Q r)
def io (a:List Int) (s:Int) (Q:List Int->Prop):Prop:=
 bd (σ:=Int×(List Int)) (0,[]) λ⟨x,out⟩ next1=>
  aj (decide (x<(a.length:Int)))
   (bD a x λr=>
   rng (x+1)/\
   bD a (x+1) λr1=>
   ((0:Int)<=s/\s<=64)/\
   ((out++[(IntKind.wrap .u32 ((bits .or .u64 r (IntKind.wrap .u64 (r1*2^(Int.toNat 32)))) / 2^(Int.toNat s)))]).length*4<=140737488355328)/\
   rng (x+1)/\
   next1 ((x+1),(out++[(IntKind.wrap .u32 ((bits .or .u64 r (IntKind.wrap .u64 (r1*2^(Int.toNat 32)))) / 2^(Int.toNat s)))])))
   (ck out λr2=>
   Q r2)
def gO (a:List Int) (b:List Int) (Q:List Int->List Int->Int->Prop):Prop:=
 ck b λb1=>
 aj ((b1.length:Int) == 0)
  (Q [] [] 8)
  (bd (σ:=Int) 0 λs next1=>
   rng ((b1.length:Int)-1)/\
   ((0:Int)<=((b1.length:Int)-1)/\((b1.length:Int)-1)<(b1.length:Int))/\
   ((0:Int)<=s/\s<=32)/\
   aj ((bits .and .u32 (IntKind.wrap .u32 ((at' b1 ((b1.length:Int)-1))*2^(Int.toNat s))) 2147483648) == 0)
    (rng (s+1)/\
    next1 (s+1))
    (jT a s λa1=>
    jT b1 s λb2=>
    mL 4 (a1.length:Int) (a1.length:Int)/\
    rng ((a1.length:Int)-(b1.length:Int))/\
    rng (((a1.length:Int)-(b1.length:Int))+1)/\
    ((0:Int)<=(max 0 (((a1.length:Int)-(b1.length:Int))+1))/\(max 0 (((a1.length:Int)-(b1.length:Int))+1))<=(a1.length:Int)/\(a1.length:Int)<=(a1.length:Int))/\
    ((([]:List Int)++(f8 a1 (max 0 (((a1.length:Int)-(b1.length:Int))+1)) (a1.length:Int))).length*4<=140737488355328)/\
    rng ((a1.length:Int)-(b1.length:Int))/\
    bd (σ:=(List Int)×Int×(List Int)) ((([]:List Int)++(f8 a1 (max 0 (((a1.length:Int)-(b1.length:Int))+1)) (a1.length:Int))),((a1.length:Int)-(b1.length:Int)),(fh (a1.length:Int) 0)) λ⟨r,i,q⟩ next2=>
     aj (decide (0<=i))
      (((0:Int)<=i/\i<(a1.length:Int))/\
      (([(at' a1 i)]++r).length*4<=140737488355328)/\
      ck ([(at' a1 i)]++r) λr1=>
      bD r1 (b1.length:Int) λr2=>
      rng ((b1.length:Int)-1)/\
      bD r1 ((b1.length:Int)-1) λr3=>
      rng ((b1.length:Int)-1)/\
      bD b2 ((b1.length:Int)-1) λr4=>
      r4≠0/\
      iE (min (IntKind.wrap .u64 (Int.tdiv (bits .or .u64 (IntKind.wrap .u64 (r2*2^(Int.toNat 32))) r3) r4)) 4294967295) λguess=>
      cQ b2 [(IntKind.wrap .u32 guess)] λp=>
      bd (σ:=Int×(List Int)) (guess,p) λ⟨guess1,p1⟩ next3=>
       fG p1 r1 λr5=>
       aj (decide (0<r5))
        (gN p1 b2 λr6 _=>
        next3 ((IntKind.wrap .u64 (guess1-1)),r6))
        (gN r1 p1 λr8 _=>
        ((0:Int)<=i/\i<(q.length:Int))/\
        rng (i-1)/\
        next2 (r8,(i-1),(cg q i (IntKind.wrap .u32 guess1)))))
      (ck q λr10=>
      io r s λr11=>
      Q r10 r11 0)))
def i_ (a:List Int) (b:List Int) (Q:List Int->Prop):Prop:=
 ck a λa1=>
 ck b λb1=>
 bd (σ:=(List Int)×(List Int)) (a1,b1) λ⟨a2,b2⟩ next1=>
  aj (decide (0<(b2.length:Int)))
   (gO a2 b2 λ_ r1 _=>
   next1 (b2,r1))
   (Q a2)
def ja (a:List Int) (b:List Int) (Q:List Int->Prop):Prop:=
 rng ((max (a.length:Int) (b.length:Int))+1)/\
 bd (σ:=Int×Int×(List Int)) (0,0,[]) λ⟨carry,x,out⟩ next1=>
  aj (decide (x<((max (a.length:Int) (b.length:Int))+1)))
   (bD a x λr=>
   bD b x λr1=>
   iE (IntKind.wrap .u64 ((IntKind.wrap .u64 (r+r1))+carry)) λs=>
   ((out++[(IntKind.wrap .u32 s)]).length*4<=140737488355328)/\
   rng (x+1)/\
   next1 ((s / 2^(Int.toNat 32)),(x+1),(out++[(IntKind.wrap .u32 s)])))
   (ck out λr2=>
   Q r2)
end Go.Gg
namespace Go.Gg
def iw (a:List Int) (b:List Int) (Q:Bool->Prop):Prop:=
 aj ((a.length:Int) != (b.length:Int))
  (Q false)
  (bd (σ:=Int) 0 λx next1=>
   aj (decide (x<(a.length:Int)))
    (((0:Int)<=x/\x<(a.length:Int))/\
    ((0:Int)<=x/\x<(b.length:Int))/\
    aj ((at' a x) != (at' b x))
     (Q false)
     (rng (x+1)/\
     next1 (x+1)))
    (Q true))
def fC (a:GRat) (b:GRat) (Q:Bool->Prop):Prop:=
 aj (a.Neg == b.Neg)
  (iw a.Num b.Num λr=>
  aj r
   (iw a.Den b.Den λr1=>
   Q r1)
   (Q false))
  (Q false)
def gR (a:List GRat) (b:List GRat) (Q:Bool->Prop):Prop:=
 aj ((a.length:Int) != (b.length:Int))
  (Q false)
  (bd (σ:=Int) 0 λx next1=>
   aj (decide (x<(a.length:Int)))
    (((0:Int)<=x/\x<(a.length:Int))/\
    ((0:Int)<=x/\x<(b.length:Int))/\
    cP (fC (at' a x) (at' b x)) λr=>
    aj (!r)
     (Q false)
     (rng (x+1)/\
     next1 (x+1)))
    (Q true))
def fU (Q:List Int->Prop):Prop:=
 Q [1]
def eX (a:List Int) (Q:Bool->Prop):Prop:=
 aj (decide (0<(a.length:Int)))
  (rng ((a.length:Int)-1)/\
  ((0:Int)<=((a.length:Int)-1)/\((a.length:Int)-1)<(a.length:Int))/\
  Q ((at' a ((a.length:Int)-1)) != 0))
  (Q false)
def eY (a:GRat) (Q:Bool->Prop):Prop:=
 cC (α:=Bool) (λnext1=>
  aj ((a.Num.length:Int) == 0)
   (next1 ((a.Den.length:Int) == 0))
   (next1 false))
  λx=>
  aj x
   (Q (!a.Neg))
   (eX a.Num λr=>
   aj r
    (eX a.Den λr1=>
    aj r1
     (gC a.Num a.Den λr2=>
     fU λr3=>
     cO r2 r3 λr4=>
     Q (r4 == 0))
     (Q false))
    (Q false))
def bM (a:GRat) (Q:Bool->List Int->List Int->Prop):Prop:=
 cC (α:=Bool) (λnext1=>
  eY a λr1=>
  aj (!r1)
   (next1 true)
   (next1 ((a.Num.length:Int) == 0)))
  λx=>
  aj x
   (fU λr=>
   Q false [] r)
   (Q a.Neg a.Num a.Den)
def bX (neg:Bool) (num:List Int) (den:List Int) (Q:GRat->Prop):Prop:=
 iR num λr=>
 aj (r == 0)
  (Q (⟨false,[],[]⟩:GRat))
  (gC num den λg2=>
  fu num g2 λr1 _ _=>
  fu den g2 λr4 _ _=>
  Q (⟨neg,r1,r4⟩:GRat))
def iO (a:GRat) (b:GRat) (Q:GRat->Prop):Prop:=
 bM a λr r1 r2=>
 bM b λr3 r4 r5=>
 cx r1 r5 λp=>
 cx r4 r2 λq=>
 cx r2 r5 λden=>
 aj (r == r3)
  (gD p q λr6=>
  bX r r6 den λr7=>
  Q r7)
  (cO p q λr8=>
  aj (decide (0<=r8))
   (gB p q λr9 _=>
   bX r r9 den λr11=>
   Q r11)
   (gB q p λr12 _=>
   bX r3 r12 den λr14=>
   Q r14))
def iN (a:GRat) (Q:GRat->Prop):Prop:=
 bM a λr r1 r2=>
 bX (!r) r1 r2 λr3=>
 Q r3
def cR (a:GRat) (b:GRat) (Q:GRat->Prop):Prop:=
 cP (iN b) λr=>
 cP (iO a r) λr1=>
 Q r1
def gX (n:Int) (Q:List Int->Prop):Prop:=
 aj (n == (-9223372036854775808))
  (Q [0,2147483648])
  (rng (-n)/\
  ip (max n (-n)) λr=>
  Q r)
def ek (n:Int) (Q:GRat->Prop):Prop:=
 gX n λr=>
 fU λr1=>
 bX (decide (n<0)) r r1 λr2=>
 Q r2
def dh (a:GRat) (b:GRat) (Q:GRat->Prop):Prop:=
 bM a λr r1 r2=>
 bM b λr3 r4 r5=>
 cx r1 r4 λr6=>
 cx r2 r5 λr7=>
 bX (r != r3) r6 r7 λr8=>
 Q r8
def dK (a:GRat) (b:GRat) (Q:GRat->Option Int->Prop):Prop:=
 bM a λr r1 r2=>
 bM b λr3 r4 r5=>
 aj ((r4.length:Int) == 0)
  (Q (⟨false,[],[]⟩:GRat) (some 8))
  (cx r1 r5 λr6=>
  cx r2 r4 λr7=>
  bX (r != r3) r6 r7 λr8=>
  Q r8 none)
def ee (a:GRat) (Q:Int->Prop):Prop:=
 bM a λr r1 _=>
 aj ((r1.length:Int) == 0)
  (Q 0)
  (aj r
   (Q (-1))
   (Q 1))
def gY (a:GRat) (Q:Bool->Prop):Prop:=
 eY a λr=>
 aj r
  (aj (!a.Neg)
   (cO a.Num a.Den λr1=>
   Q (decide (r1<=0)))
   (Q false))
  (Q false)
def c6 (neg:Bool) (num:List Int) (den:List Int) (Q:GRat->Int->Prop):Prop:=
 fT den λr=>
 aj (r == 0)
  (Q (⟨false,[],[]⟩:GRat) 8)
  (fT num λr1=>
  aj (r1 == 0)
   (Q (⟨false,[],[]⟩:GRat) 0)
   (i_ num den λg2=>
   gO num g2 λr2 _ _=>
   gO den g2 λr5 _ _=>
   Q (⟨neg,r2,r5⟩:GRat) 0))
def ij (n:Int) (Q:List Int->Prop):Prop:=
 cC (α:=Int) (λnext1=>
  aj (decide (n<0))
   (iE (IntKind.wrap .u64 (0-(IntKind.wrap .u64 n))) λu1=>
   next1 u1)
   (next1 (IntKind.wrap .u64 n)))
  λu=>
  Q [(IntKind.wrap .u32 u),(IntKind.wrap .u32 (u / 2^(Int.toNat 32)))]
def im (n:Int) (d:Int) (Q:GRat->Int->Prop):Prop:=
 ij n λr=>
 ij d λr1=>
 c6 ((decide (n<0)) != (decide (d<0))) r r1 λr2 r3=>
 Q r2 r3
def eF (n:Int) (Q:GRat->Prop):Prop:=
 im n 1 λr _=>
 Q r
def eH (a:GRat) (b:GRat) (Q:Int->Prop):Prop:=
 cR a b λr=>
 ee r λr1=>
 Q r1
def fr (a:GRat) (Q:Bool->Prop):Prop:=
 cC (α:=Bool) (λnext1=>
  aj ((a.Num.length:Int) == 0)
   (next1 true)
   (next1 ((a.Den.length:Int) == 0)))
  λx=>
  aj x
   (aj ((a.Num.length:Int) == 0)
    (aj ((a.Den.length:Int) == 0)
     (Q (!a.Neg))
     (Q false))
    (Q false))
   (rng ((a.Num.length:Int)-1)/\
   ((0:Int)<=((a.Num.length:Int)-1)/\((a.Num.length:Int)-1)<(a.Num.length:Int))/\
   aj ((at' a.Num ((a.Num.length:Int)-1)) != 0)
    (rng ((a.Den.length:Int)-1)/\
    ((0:Int)<=((a.Den.length:Int)-1)/\((a.Den.length:Int)-1)<(a.Den.length:Int))/\
    aj ((at' a.Den ((a.Den.length:Int)-1)) != 0)
     (i_ a.Num a.Den λr=>
     fT r λr1=>
     Q (r1 == 1))
     (Q false))
    (Q false))
def cw (a:GRat) (Q:Bool->List Int->List Int->Prop):Prop:=
 cC (α:=Bool) (λnext1=>
  fr a λr=>
  aj (!r)
   (next1 true)
   (next1 ((a.Num.length:Int) == 0)))
  λx=>
  aj x
   (Q false [] [1])
   (Q a.Neg a.Num a.Den)
def d5 (a:GRat) (Q:Int->Prop):Prop:=
 cw a λr r1 _=>
 aj ((r1.length:Int) == 0)
  (Q 0)
  (aj r
   (Q (-1))
   (Q 1))
def ky (a:GRat) (b:GRat) (Q:GRat->Prop):Prop:=
 cw a λr r1 r2=>
 cw b λr3 r4 r5=>
 cQ r1 r5 λx=>
 cQ r4 r2 λy1=>
 cQ r2 r5 λden=>
 aj (r == r3)
  (ja x y1 λr6=>
  c6 r r6 den λr7 _=>
  Q r7)
  (cC (α:=Bool×(List Int)×(List Int)) (λnext1=>
   fG x y1 λr13=>
   aj (decide (r13<0))
    (next1 (r3,y1,x))
    (next1 (r,x,y1)))
   λ⟨s,x1,y2⟩=>
   gN x1 y2 λr9 _=>
   c6 s r9 den λr11 _=>
   Q r11)
def kw (a:GRat) (Q:GRat->Prop):Prop:=
 cw a λr r1 r2=>
 c6 (!r) r1 r2 λr3 _=>
 Q r3
def eE (a:GRat) (b:GRat) (Q:GRat->Prop):Prop:=
 cP (kw b) λr=>
 cP (ky a r) λr1=>
 Q r1
def fF (a:GRat) (b:GRat) (Q:Int->Prop):Prop:=
 eE a b λr=>
 d5 r λr1=>
 Q r1
def eW (a:GRat) (Q:Bool->Prop):Prop:=
 cP (fr a) λr=>
 aj r
  (cP (d5 a) λr1=>
  aj (decide (0<=r1))
   (cP (eF 1) λr2=>
   cP (fF a r2) λr3=>
   Q (decide (r3<=0)))
   (Q false))
  (Q false)
def eG (a:GRat) (b:GRat) (Q:GRat->Prop):Prop:=
 cw a λr r1 r2=>
 cw b λr3 r4 r5=>
 cQ r1 r4 λr6=>
 cQ r2 r5 λr7=>
 c6 (r != r3) r6 r7 λr8 _=>
 Q r8
def fE (a:GRat) (b:GRat) (Q:GRat->Int->Prop):Prop:=
 cw a λr r1 r2=>
 cw b λr3 r4 r5=>
 cQ r1 r5 λr6=>
 cQ r2 r4 λr7=>
 c6 (r != r3) r6 r7 λr8 r9=>
 Q r8 r9
def l9 (err:Option Int) (Q:Int->Prop):Prop:=
 aj (Option.isNone err)
  (Q 0)
  (aj (Option.isSome err)
   (Q (Option.getD err 0))
   (Q (-1)))
def kO (a:List Int) (b:List Int) (Q:Bool->Prop):Prop:=
 aj ((a.length:Int) != (b.length:Int))
  (Q false)
  (bd (σ:=Int) 0 λx next1=>
   aj (decide (x<(a.length:Int)))
    (((0:Int)<=x/\x<(a.length:Int))/\
    ((0:Int)<=x/\x<(b.length:Int))/\
    aj ((at' a x) != (at' b x))
     (Q false)
     (rng (x+1)/\
     next1 (x+1)))
    (Q true))
def iY (a:GFormula) (b:GFormula) (Q:Bool->Prop):Prop:=
 aj (a.Vars != b.Vars)
  (Q false)
  (aj (a.Top != b.Top)
   (Q false)
   (aj ((a.Nodes.length:Int) != (b.Nodes.length:Int))
    (Q false)
    (bd (σ:=Int) 0 λx next1=>
     aj (decide (x<(a.Nodes.length:Int)))
      (((0:Int)<=x/\x<(a.Nodes.length:Int))/\
      ((0:Int)<=x/\x<(b.Nodes.length:Int))/\
      aj ((at' a.Nodes x).Kind != (at' b.Nodes x).Kind)
       (Q false)
       (((0:Int)<=x/\x<(a.Nodes.length:Int))/\
       ((0:Int)<=x/\x<(b.Nodes.length:Int))/\
       aj ((at' a.Nodes x).K != (at' b.Nodes x).K)
        (Q false)
        (((0:Int)<=x/\x<(a.Nodes.length:Int))/\
        ((0:Int)<=x/\x<(b.Nodes.length:Int))/\
        cP (kO ((at' a.Nodes x).Args) ((at' b.Nodes x).Args)) λr=>
        aj (!r)
         (Q false)
         (rng (x+1)/\
         next1 (x+1)))))
      (Q true))))
end Go.Gg
namespace Go.Gg
def fk (kind:Int) (n:Int) (Q:Bool->Prop):Prop:=
 aj (kind == 0)
  (Q (n == 0))
  (aj (kind == 1)
   (Q (n == 1))
   (aj (decide (1<=n))
    (Q (decide (n<=16)))
    (Q false)))
def fj (f:GFormula) (i:Int) (Q:Option Int->Prop):Prop:=
 ((0:Int)<=i/\i<(f.Nodes.length:Int))/\
 cC (α:=Bool) (λnext5=>
  aj (decide ((at' f.Nodes i).Kind<0))
   (next5 true)
   (next5 (decide (5<(at' f.Nodes i).Kind))))
  λx=>
  aj x
   (Q (some 7))
   (fk ((at' f.Nodes i).Kind) (((at' f.Nodes i).Args).length:Int) λr=>
   aj (!r)
    (Q (some 11))
    (bd (σ:=Int) 0 λx1 next1=>
     aj (decide (x1<(((at' f.Nodes i).Args).length:Int)))
      (((0:Int)<=x1/\x1<(((at' f.Nodes i).Args).length:Int))/\
      cC (α:=Bool) (λnext2=>
       aj (decide ((at' ((at' f.Nodes i).Args) x1)<0))
        (next2 true)
        (rng (f.Vars+i)/\
        next2 (decide ((f.Vars+i)<=(at' ((at' f.Nodes i).Args) x1)))))
       λx2=>
       aj x2
        (Q (some 10))
        (rng (x1+1)/\
        next1 (x1+1)))
      (aj ((at' f.Nodes i).Kind == 0)
       (cC (α:=Bool) (λnext3=>
        aj ((at' f.Nodes i).K != 0)
         (next3 ((at' f.Nodes i).K != 1))
         (next3 false))
        λx3=>
        aj x3
         (Q (some 3))
         (Q none))
       (aj ((at' f.Nodes i).Kind == 4)
        (cC (α:=Bool) (λnext4=>
         aj (decide ((at' f.Nodes i).K<1))
          (next4 true)
          (next4 (decide ((((at' f.Nodes i).Args).length:Int)<(at' f.Nodes i).K))))
         λx4=>
         aj x4
          (Q (some 3))
          (Q none))
        (aj ((at' f.Nodes i).K != 0)
         (Q (some 2))
         (Q none))))))
def hY (f:GFormula) (arg:Int) (Q:Bool->Prop):Prop:=
 aj (decide (0<=f.Vars))
  (aj (decide (0<=arg))
   (aj (decide (arg<f.Vars))
    (Q true)
    (rng (arg-f.Vars)/\
    Q (decide ((arg-f.Vars)<(f.Nodes.length:Int)))))
   (Q false))
  (Q false)
def hZ (f:GFormula) (Q:Option Int->Prop):Prop:=
 cC (α:=Bool) (λnext2=>
  aj (decide (f.Vars<0))
   (next2 true)
   (next2 (decide (24<f.Vars))))
  λx=>
  aj x
   (Q (some 3))
   (aj (decide (128<(f.Nodes.length:Int)))
    (Q (some 4))
    (bd (σ:=Int) 0 λx1 next1=>
     aj (decide (x1<(f.Nodes.length:Int)))
      (fj f x1 λe=>
      aj (Option.isSome e)
       (Q e)
       (rng (x1+1)/\
       next1 (x1+1)))
      (hY f f.Top λr=>
      aj (!r)
       (Q (some 10))
       (Q none))))
def jR (f:GFormula) (i:Int) (Q:Int->Prop):Prop:=
 ((0:Int)<=i/\i<(f.Nodes.length:Int))/\
 cC (α:=Int×Int) (λnext2=>
  aj ((at' f.Nodes i).Kind == 0)
   (next2 (0,0))
   (aj ((at' f.Nodes i).Kind == 1)
    (next2 (1,1))
    (aj ((at' f.Nodes i).Kind == 2)
     (next2 (1,16))
     (aj ((at' f.Nodes i).Kind == 3)
      (next2 (1,16))
      (aj ((at' f.Nodes i).Kind == 4)
       (next2 (1,16))
       (aj ((at' f.Nodes i).Kind == 5)
        (next2 (1,16))
        (Q 7)))))))
  λ⟨least,most⟩=>
  aj (decide ((((at' f.Nodes i).Args).length:Int)<least))
   (Q 11)
   (aj (decide (most<(((at' f.Nodes i).Args).length:Int)))
    (Q 11)
    (bd (σ:=Int) 0 λx next1=>
     aj (decide (x<(((at' f.Nodes i).Args).length:Int)))
      (((0:Int)<=x/\x<(((at' f.Nodes i).Args).length:Int))/\
      aj (decide ((at' ((at' f.Nodes i).Args) x)<0))
       (Q 10)
       (rng (f.Vars+i)/\
       aj (decide ((f.Vars+i)<=(at' ((at' f.Nodes i).Args) x)))
        (Q 10)
        (rng (x+1)/\
        next1 (x+1))))
      (aj ((at' f.Nodes i).Kind == 0)
       (aj ((at' f.Nodes i).K != 0)
        (aj ((at' f.Nodes i).K != 1)
         (Q 3)
         (Q 0))
        (Q 0))
       (aj ((at' f.Nodes i).Kind == 4)
        (aj (decide ((at' f.Nodes i).K<1))
         (Q 3)
         (aj (decide ((((at' f.Nodes i).Args).length:Int)<(at' f.Nodes i).K))
          (Q 3)
          (Q 0)))
        (aj ((at' f.Nodes i).K != 0)
         (Q 2)
         (Q 0))))))
def jl (f:GFormula) (arg:Int) (Q:Bool->Prop):Prop:=
 aj (decide (0<=f.Vars))
  (aj (decide (0<=arg))
   (aj (decide (arg<f.Vars))
    (Q true)
    (rng (arg-f.Vars)/\
    Q (decide ((arg-f.Vars)<(f.Nodes.length:Int)))))
   (Q false))
  (Q false)
def jm (f:GFormula) (Q:Int->Prop):Prop:=
 aj (decide (f.Vars<0))
  (Q 3)
  (aj (decide (24<f.Vars))
   (Q 3)
   (aj (decide (128<(f.Nodes.length:Int)))
    (Q 4)
    (bd (σ:=Int) 0 λx next1=>
     aj (decide (x<(f.Nodes.length:Int)))
      (jR f x λe=>
      aj (e != 0)
       (Q e)
       (rng (x+1)/\
       next1 (x+1)))
      (jl f f.Top λr=>
      aj (!r)
       (Q 10)
       (Q 0)))))
end Go.Gg
namespace Go.Gg
def jv (f:GFormula) (Q:Bool->Prop):Prop:=
 aj (decide (200<(f.Nodes.length:Int)))
  (Q false)
  (bd (σ:=Int) 0 λx next1=>
   aj (decide (x<(f.Nodes.length:Int)))
    (((0:Int)<=x/\x<(f.Nodes.length:Int))/\
    aj (decide (40<(((at' f.Nodes x).Args).length:Int)))
     (Q false)
     (rng (x+1)/\
     next1 (x+1)))
    (Q true))
def ju (a:GRat) (Q:Bool->Prop):Prop:=
 aj (decide ((a.Num.length:Int)<=40))
  (Q (decide ((a.Den.length:Int)<=40)))
  (Q false)
def c5 (v:Int) (s:List Int) (Q:Int->Prop):Prop:=
 bd (σ:=Int) 0 λx next1=>
  aj (decide (x<(s.length:Int)))
   (((0:Int)<=x/\x<(s.length:Int))/\
   aj (v == (at' s x))
    (Q x)
    (rng (x+1)/\
    next1 (x+1)))
   (Q (-1))
def bY (v:Int) (s:List Int) (Q:Bool->Prop):Prop:=
 c5 v s λr=>
 Q (decide (0<=r))
def b6 (s:List Int) (Q:List Int->Prop):Prop:=
 ∀isnil:Bool,(isnil=true->s=[])->
 aj isnil
  (Q [])
  (((([]:List Int)++s).length*4<=140737488355328)/\
  Q (([]:List Int)++s))
end Go.Gg
namespace Go.Gg
def jK (x:GRat) (Q:Bool->Prop):Prop:=
 gY x λr=>
 Q (!r)
def bq (s:List GRat) (Q:Int->Prop):Prop:=
 bd (σ:=Int) 0 λx next1=>
  aj (decide (x<(s.length:Int)))
   (((0:Int)<=x/\x<(s.length:Int))/\
   jK (at' s x) λr=>
   aj r
    (Q x)
    (rng (x+1)/\
    next1 (x+1)))
   (Q (-1))
def bI (s:List GRat) (Q:Bool->Prop):Prop:=
 bq s λr=>
 Q (decide (0<=r))
def dk (l:List GRat) (Q:Bool->Prop):Prop:=
 bI l λr=>
 Q (!r)
def gI (p:GRat) (beta:GRat) (Q:GRat->GRat->Option Int->Prop):Prop:=
 dk [p,beta] λr=>
 aj (!r)
  (Q (⟨false,[],[]⟩:GRat) (⟨false,[],[]⟩:GRat) (some 3))
  (dh beta p λr1=>
  cP (ek 1) λr2=>
  cP (cR r2 r1) λr3=>
  ee r3 λr4=>
  aj (r4 == 0)
   (Q (⟨false,[],[]⟩:GRat) r1 none)
   (cP (cR p r1) λr5=>
   qI (dK r5 r3) λr6 r7=>
   Q r6 r1 r7))
def h_ (n:Int) (k1:Int) (Q:Int->Prop):Prop:=
 bd (σ:=Int×Int) (1,0) λ⟨out,x⟩ next1=>
  aj (decide (x<k1))
   (rng (n-x)/\
   rng (out*(n-x))/\
   rng (x+1)/\
   ((x+1)≠0/\rng (Int.tdiv (out*(n-x)) (x+1)))/\
   rng (x+1)/\
   next1 ((Int.tdiv (out*(n-x)) (x+1)),(x+1)))
   (Q out)
def fX (p:GRat) (factors:List GRat) (Q:List GRat->Option Int->Prop):Prop:=
 cC (α:=Bool) (λnext4=>
  dk [p] λr8=>
  aj (!r8)
   (next4 true)
   (dk factors λr9=>
   next4 (!r9)))
  λx=>
  aj x
   (Q [] (some 3))
   (cC (α:=Bool) (λnext3=>
    aj (decide ((factors.length:Int)<1))
     (next3 true)
     (next3 (decide (3<(factors.length:Int)))))
    λx1=>
    aj x1
     (Q [] (some 11))
     (rng ((factors.length:Int)+1)/\
     bd (σ:=Int×GRat×(List GRat)) (1,p,[]) λ⟨k1,x2,out⟩ next1=>
      aj (decide (k1<=((factors.length:Int)+1)))
       (cC (α:=GRat×GRat) (λnext2=>
        aj (decide (k1<((factors.length:Int)+1)))
         (cP (ek 1) λr4=>
         rng (k1-1)/\
         ((0:Int)<=(k1-1)/\(k1-1)<(factors.length:Int))/\
         cP (cR r4 (at' factors (k1-1))) λr5=>
         cP (dh x2 r5) λr6=>
         rng (k1-1)/\
         ((0:Int)<=(k1-1)/\(k1-1)<(factors.length:Int))/\
         cP (dh x2 (at' factors (k1-1))) λr7=>
         next2 (r7,r6))
         (next2 (x2,x2)))
        λ⟨x3,x4⟩=>
        rng (((factors.length:Int)+1)-1)/\
        rng (k1-1)/\
        cP (h_ (((factors.length:Int)+1)-1) (k1-1)) λr=>
        cP (ek r) λr1=>
        qI (dK x4 r1) λr2 r3=>
        aj (Option.isSome r3)
         (Q [] r3)
         (((out++[r2]).length*56<=140737488355328)/\
         rng (k1+1)/\
         next1 ((k1+1),x3,(out++[r2]))))
       (Q out none)))
def d_ (g1:GCauseGroup) (p:List GRat) (members:List Int) (Q:List Int->Option Int->Prop):Prop:=
 cC (α:=Bool) (λnext6=>
  aj (g1.Kind != 0)
   (next6 (g1.Kind != 1))
   (next6 false))
  λx=>
  aj x
   (Q members (some 7))
   (cC (α:=Int×Int) (λnext5=>
    aj (g1.Kind == 1)
     (rng ((g1.Members.length:Int)-1)/\
     next5 (4,((g1.Members.length:Int)-1)))
     (next5 (24,1)))
    λ⟨most,factors⟩=>
    cC (α:=Bool) (λnext4=>
     aj (decide ((g1.Members.length:Int)<2))
      (next4 true)
      (aj (decide (most<(g1.Members.length:Int)))
       (next4 true)
       (next4 ((g1.Factors.length:Int) != factors))))
     λx1=>
     aj x1
      (Q members (some 11))
      (bd (σ:=Int×(List Int)) (0,members) λ⟨x2,members1⟩ next1=>
       aj (decide (x2<(g1.Members.length:Int)))
        (((0:Int)<=x2/\x2<(g1.Members.length:Int))/\
        cC (α:=Bool) (λnext2=>
         aj (decide ((at' g1.Members x2)<0))
          (next2 true)
          (next2 (decide ((p.length:Int)<=(at' g1.Members x2)))))
         λx3=>
         aj x3
          (Q members1 (some 10))
          (bY (at' g1.Members x2) members1 λr=>
          aj r
           (Q members1 (some 6))
           (((members1++[(at' g1.Members x2)]).length*8<=140737488355328)/\
           rng (x2+1)/\
           next1 ((x2+1),(members1++[(at' g1.Members x2)])))))
        (dk g1.Factors λr1=>
        aj (!r1)
         (Q members1 (some 3))
         (bd (σ:=Int) 0 λx4 next3=>
          aj (decide (x4<(g1.Members.length:Int)))
           (((0:Int)<=x4/\x4<(g1.Members.length:Int))/\
           ((0:Int)<=(at' g1.Members x4)/\(at' g1.Members x4)<(p.length:Int))/\
           ((0:Int)<=0/\0<(g1.Members.length:Int))/\
           ((0:Int)<=(at' g1.Members 0)/\(at' g1.Members 0)<(p.length:Int))/\
           cP (eH (at' p (at' g1.Members x4)) (at' p (at' g1.Members 0))) λr2=>
           aj (r2 != 0)
            (Q members1 (some 3))
            (rng (x4+1)/\
            next3 (x4+1)))
           (Q members1 none)))))
def iX (f:GFormula) (p:List GRat) (groups:List GCauseGroup) (Q:Option Int->Prop):Prop:=
 hZ f λe=>
 aj (Option.isSome e)
  (Q e)
  (aj ((p.length:Int) != f.Vars)
   (Q (some 11))
   (dk p λr=>
   aj (!r)
    (Q (some 3))
    (bd (σ:=Int×(List Int)) (0,[]) λ⟨x,members⟩ next1=>
     aj (decide (x<(groups.length:Int)))
      (((0:Int)<=x/\x<(groups.length:Int))/\
      d_ (at' groups x) p members λmembers1 r1=>
      aj (Option.isSome r1)
       (Q r1)
       (rng (x+1)/\
       next1 ((x+1),members1)))
      (Q none))))
def eP (x:GRat) (Q:GRat->Prop):Prop:=
 cP (b6 x.Num) λr=>
 cP (b6 x.Den) λr1=>
 Q (⟨x.Neg,r,r1⟩:GRat)
def ia (g1:GCauseGroup) (p:GRat) (Q:List Gcause->GRat->Option Int->Prop):Prop:=
 aj (g1.Kind == 0)
  (((0:Int)<=0/\0<(g1.Factors.length:Int))/\
  ui (gI p (at' g1.Factors 0)) λr r1 r2=>
  Q [(⟨(⟨r1.Neg,r1.Num,r1.Den⟩:GRat),g1.Members⟩:Gcause)] r r2)
  (fX p g1.Factors λr3 r4=>
  aj (Option.isSome r4)
   (Q [] (⟨false,[],[]⟩:GRat) r4)
   ((((0:Int)<=(g1.Members.length:Int)/\(g1.Members.length:Int)<=64)/\rng (1*2^(Int.toNat (g1.Members.length:Int))))/\
   bd (σ:=Int×(List Gcause)) (0,[]) λ⟨x,out⟩ next1=>
    aj (decide (x<(1*2^(Int.toNat (g1.Members.length:Int)))))
     (bd (σ:=Int×(List Int)) (0,[]) λ⟨x1,l⟩ next2=>
      aj (decide (x1<(g1.Members.length:Int)))
       (((0:Int)<=x1/\x1<(g1.Members.length:Int))/\
       ((0:Int)<=x1/\x1<=64)/\
       aj ((bits .and .i64 (x / 2^(Int.toNat x1)) 1) == 1)
        (((l++[(at' g1.Members x1)]).length*8<=140737488355328)/\
        rng (x1+1)/\
        next2 ((x1+1),(l++[(at' g1.Members x1)])))
        (rng (x1+1)/\
        next2 ((x1+1),l)))
       (aj (decide (1<(l.length:Int)))
        (rng ((l.length:Int)-1)/\
        ((0:Int)<=((l.length:Int)-1)/\((l.length:Int)-1)<(r3.length:Int))/\
        ((out++[(⟨(⟨(at' r3 ((l.length:Int)-1)).Neg,(at' r3 ((l.length:Int)-1)).Num,(at' r3 ((l.length:Int)-1)).Den⟩:GRat),l⟩:Gcause)]).length*80<=140737488355328)/\
        rng (x+1)/\
        next1 ((x+1),(out++[(⟨(⟨(at' r3 ((l.length:Int)-1)).Neg,(at' r3 ((l.length:Int)-1)).Num,(at' r3 ((l.length:Int)-1)).Den⟩:GRat),l⟩:Gcause)])))
        (rng (x+1)/\
        next1 ((x+1),out))))
     (((0:Int)<=0/\0<(r3.length:Int))/\
     Q out (at' r3 0) none)))
def ib (f:GFormula) (p:List GRat) (groups:List GCauseGroup) (Q:GFormula->List GRat->Option Int->Prop):Prop:=
 iX f p groups λe=>
 aj (Option.isSome e)
  (Q (⟨0,[],0⟩:GFormula) [] e)
  (bd (σ:=Int×(List GRat)) (0,[]) λ⟨x,q⟩ next1=>
   aj (decide (x<(p.length:Int)))
    (((0:Int)<=x/\x<(p.length:Int))/\
    eP (at' p x) λr=>
    ((q++[r]).length*56<=140737488355328)/\
    rng (x+1)/\
    next1 ((x+1),(q++[r])))
    (bd (σ:=Int×(List GRat)×(List (Int×List Int))×(List Int)) (0,q,([]:List (Int×List Int)),[]) λ⟨x1,q1,x2,order⟩ next2=>
     aj (decide (x1<(groups.length:Int)))
      (((0:Int)<=x1/\x1<(groups.length:Int))/\
      ((0:Int)<=0/\0<(((at' groups x1).Members).length:Int))/\
      ((0:Int)<=(at' ((at' groups x1).Members) 0)/\(at' ((at' groups x1).Members) 0)<(p.length:Int))/\
      ui (ia (at' groups x1) (at' p (at' ((at' groups x1).Members) 0))) λr1 r2 r3=>
      aj (Option.isSome r3)
       (Q (⟨0,[],0⟩:GFormula) [] r3)
       (bd (σ:=Int×(List GRat)×(List (Int×List Int))) (0,q1,x2) λ⟨x3,q2,x4⟩ next3=>
        aj (decide (x3<(r1.length:Int)))
         (((0:Int)<=x3/\x3<(r1.length:Int))/\
         bd (σ:=Int×(List (Int×List Int))) (0,x4) λ⟨x5,x6⟩ next4=>
          aj (decide (x5<(((at' r1 x3).members).length:Int)))
           (((0:Int)<=x5/\x5<(((at' r1 x3).members).length:Int))/\
           ((co x6 (at' ((at' r1 x3).members) x5)++[(q2.length:Int)]).length*8<=140737488355328)/\
           rng (x5+1)/\
           next4 ((x5+1),(eh x6 (at' ((at' r1 x3).members) x5) (co x6 (at' ((at' r1 x3).members) x5)++[(q2.length:Int)]))))
           (eP ((at' r1 x3).p) λr4=>
           ((q2++[r4]).length*56<=140737488355328)/\
           rng (x3+1)/\
           next3 ((x3+1),(q2++[r4]),x6)))
         (bd (σ:=Int×(List GRat)×(List Int)) (0,q2,order) λ⟨x7,q3,order1⟩ next5=>
          aj (decide (x7<(((at' groups x1).Members).length:Int)))
           (((0:Int)<=x7/\x7<(((at' groups x1).Members).length:Int))/\
           eP r2 λr5=>
           ((0:Int)<=(at' ((at' groups x1).Members) x7)/\(at' ((at' groups x1).Members) x7)<(q3.length:Int))/\
           ((order1++[(at' ((at' groups x1).Members) x7)]).length*8<=140737488355328)/\
           rng (x7+1)/\
           next5 ((x7+1),(cg q3 (at' ((at' groups x1).Members) x7) r5),(order1++[(at' ((at' groups x1).Members) x7)])))
           (rng (x1+1)/\
           next2 ((x1+1),q3,x4,order1)))))
      (cC (α:=Bool×(List (Int×List Int))) (λnext10=>
       aj (decide (24<(q1.length:Int)))
        (next10 (true,x2))
        (rng ((order.length:Int)+(f.Nodes.length:Int))/\
        next10 ((decide (128<((order.length:Int)+(f.Nodes.length:Int)))),x2)))
       λ⟨x8,x9⟩=>
       aj x8
        (Q (⟨0,[],0⟩:GFormula) [] (some 4))
        (mL 8 f.Vars f.Vars/\
        bd (σ:=Int×(List Int)) (0,(fh f.Vars 0)) λ⟨x10,to⟩ next6=>
         aj (decide (x10<((Int.toNat f.Vars):Int)))
          (((0:Int)<=x10/\x10<(to.length:Int))/\
          rng (x10+1)/\
          next6 ((x10+1),(cg to x10 x10)))
          (bd (σ:=Int×(List Int)×(List GNode)) (0,to,[]) λ⟨x11,to1,x12⟩ next7=>
           aj (decide (x11<(order.length:Int)))
            (((0:Int)<=x11/\x11<(order.length:Int))/\
            rng ((q1.length:Int)+(x12.length:Int))/\
            ((0:Int)<=(at' order x11)/\(at' order x11)<(to1.length:Int))/\
            aj (decide (bC x9 (at' order x11)<x9.length))
             ((([(at' order x11)]++(co x9 (at' order x11))).length*8<=140737488355328)/\
             ((x12++[(⟨3,0,([(at' order x11)]++(co x9 (at' order x11)))⟩:GNode)]).length*40<=140737488355328)/\
             rng (x11+1)/\
             next7 ((x11+1),(cg to1 (at' order x11) ((q1.length:Int)+(x12.length:Int))),(x12++[(⟨3,0,([(at' order x11)]++(co x9 (at' order x11)))⟩:GNode)])))
             ((([(at' order x11)]++[]).length*8<=140737488355328)/\
             ((x12++[(⟨3,0,([(at' order x11)]++[])⟩:GNode)]).length*40<=140737488355328)/\
             rng (x11+1)/\
             next7 ((x11+1),(cg to1 (at' order x11) ((q1.length:Int)+(x12.length:Int))),(x12++[(⟨3,0,([(at' order x11)]++[])⟩:GNode)]))))
            (bd (σ:=Int×(List Int)×(List GNode)) (0,to1,x12) λ⟨x13,to2,x14⟩ next8=>
             aj (decide (x13<(f.Nodes.length:Int)))
              (((0:Int)<=x13/\x13<(f.Nodes.length:Int))/\
              bd (σ:=Int×(List Int)) (0,[]) λ⟨x15,x16⟩ next9=>
               aj (decide (x15<(((at' f.Nodes x13).Args).length:Int)))
                (((0:Int)<=x15/\x15<(((at' f.Nodes x13).Args).length:Int))/\
                ((0:Int)<=(at' ((at' f.Nodes x13).Args) x15)/\(at' ((at' f.Nodes x13).Args) x15)<(to2.length:Int))/\
                ((x16++[(at' to2 (at' ((at' f.Nodes x13).Args) x15))]).length*8<=140737488355328)/\
                rng (x15+1)/\
                next9 ((x15+1),(x16++[(at' to2 (at' ((at' f.Nodes x13).Args) x15))])))
                (rng ((q1.length:Int)+(x14.length:Int))/\
                ((to2++[((q1.length:Int)+(x14.length:Int))]).length*8<=140737488355328)/\
                ((x14++[(⟨(at' f.Nodes x13).Kind,(at' f.Nodes x13).K,x16⟩:GNode)]).length*40<=140737488355328)/\
                rng (x13+1)/\
                next8 ((x13+1),(to2++[((q1.length:Int)+(x14.length:Int))]),(x14++[(⟨(at' f.Nodes x13).Kind,(at' f.Nodes x13).K,x16⟩:GNode)]))))
              (((0:Int)<=f.Top/\f.Top<(to2.length:Int))/\
              Q (⟨(q1.length:Int),x14,(at' to2 f.Top)⟩:GFormula) q1 none)))))))
end Go.Gg
namespace Go.Gg
def fq (l:List GRat) (Q:Bool->Prop):Prop:=
 bd (σ:=Int) 0 λx next1=>
  aj (decide (x<(l.length:Int)))
   (((0:Int)<=x/\x<(l.length:Int))/\
   eW (at' l x) λr=>
   aj (!r)
    (Q false)
    (rng (x+1)/\
    next1 (x+1)))
   (Q true)
def gi (f:GFormula) (p:List GRat) (g1:GCauseGroup) (before:List Int) (Q:Int->Prop):Prop:=
 cC (α:=Int×Int) (λnext5=>
  aj (g1.Kind == 1)
   (rng ((g1.Members.length:Int)-1)/\
   next5 (4,((g1.Members.length:Int)-1)))
   (next5 (24,1)))
  λ⟨most,factors⟩=>
  cC (α:=Unit) (λnext4=>
   aj (g1.Kind != 0)
    (aj (g1.Kind != 1)
     (Q 7)
     (next4 ()))
    (next4 ()))
   λ_=>
   aj (decide ((g1.Members.length:Int)<2))
    (Q 11)
    (aj (decide (most<(g1.Members.length:Int)))
     (Q 11)
     (aj ((g1.Factors.length:Int) != factors)
      (Q 11)
      (((([]:List Int)++before).length*8<=140737488355328)/\
      bd (σ:=Int×(List Int)) (0,(([]:List Int)++before)) λ⟨x,seen⟩ next1=>
       aj (decide (x<(g1.Members.length:Int)))
        (((0:Int)<=x/\x<(g1.Members.length:Int))/\
        aj (decide ((at' g1.Members x)<0))
         (Q 10)
         (aj (decide (f.Vars<=(at' g1.Members x)))
          (Q 10)
          (bd (σ:=Int) 0 λx1 next2=>
           aj (decide (x1<(seen.length:Int)))
            (((0:Int)<=x1/\x1<(seen.length:Int))/\
            aj ((at' seen x1) == (at' g1.Members x))
             (Q 6)
             (rng (x1+1)/\
             next2 (x1+1)))
            (((seen++[(at' g1.Members x)]).length*8<=140737488355328)/\
            rng (x+1)/\
            next1 ((x+1),(seen++[(at' g1.Members x)]))))))
        (fq g1.Factors λr=>
        aj (!r)
         (Q 3)
         (bd (σ:=Int) 0 λx2 next3=>
          aj (decide (x2<(g1.Members.length:Int)))
           (((0:Int)<=x2/\x2<(g1.Members.length:Int))/\
           ((0:Int)<=(at' g1.Members x2)/\(at' g1.Members x2)<(p.length:Int))/\
           ((0:Int)<=0/\0<(g1.Members.length:Int))/\
           ((0:Int)<=(at' g1.Members 0)/\(at' g1.Members 0)<(p.length:Int))/\
           cP (fF (at' p (at' g1.Members x2)) (at' p (at' g1.Members 0))) λr1=>
           aj (r1 != 0)
            (Q 3)
            (rng (x2+1)/\
            next3 (x2+1)))
           (Q 0))))))
def jk (f:GFormula) (p:List GRat) (groups:List GCauseGroup) (Q:Int->Prop):Prop:=
 jm f λe=>
 aj (e != 0)
  (Q e)
  (aj ((p.length:Int) != f.Vars)
   (Q 11)
   (fq p λr=>
   aj (!r)
    (Q 3)
    (bd (σ:=Int×(List Int)) (0,[]) λ⟨x,before⟩ next1=>
     aj (decide (x<(groups.length:Int)))
      (((0:Int)<=x/\x<(groups.length:Int))/\
      gi f p (at' groups x) before λe1=>
      aj (e1 != 0)
       (Q e1)
       (((before++(at' groups x).Members).length*8<=140737488355328)/\
       rng (x+1)/\
       next1 ((x+1),(before++(at' groups x).Members))))
      (Q 0))))
def eV (x:GRat) (Q:GRat->Prop):Prop:=
 cP (eF 1) λr=>
 cP (eE r x) λr1=>
 Q r1
def jQ (p:GRat) (beta:GRat) (Q:GRat->GRat->Int->Prop):Prop:=
 cC (α:=Bool) (λnext1=>
  eW p λr7=>
  aj (!r7)
   (next1 true)
   (eW beta λr8=>
   next1 (!r8)))
  λx=>
  aj x
   (Q (⟨false,[],[]⟩:GRat) (⟨false,[],[]⟩:GRat) 3)
   (eG beta p λr=>
   eV r λr1=>
   d5 r1 λr2=>
   aj (r2 == 0)
    (Q (⟨false,[],[]⟩:GRat) r 0)
    (cP (eE p r) λr3=>
    cP (eV r) λr4=>
    qI (fE r3 r4) λr5 _=>
    Q r5 r 0))
def iH (n:Int) (k1:Int) (Q:Int->Prop):Prop:=
 bd (σ:=Int×Int) (1,0) λ⟨out,x⟩ next1=>
  aj (decide (x<k1))
   (rng (n-x)/\
   rng (out*(n-x))/\
   rng (x+1)/\
   ((x+1)≠0/\rng (Int.tdiv (out*(n-x)) (x+1)))/\
   rng (x+1)/\
   next1 ((Int.tdiv (out*(n-x)) (x+1)),(x+1)))
   (Q out)
def jj (p:GRat) (factors:List GRat) (Q:List GRat->Int->Prop):Prop:=
 cC (α:=Bool) (λnext4=>
  eW p λr7=>
  aj (!r7)
   (next4 true)
   (fq factors λr8=>
   next4 (!r8)))
  λx=>
  aj x
   (Q [] 3)
   (cC (α:=Bool) (λnext3=>
    aj (decide ((factors.length:Int)<1))
     (next3 true)
     (next3 (decide (3<(factors.length:Int)))))
    λx1=>
    aj x1
     (Q [] 11)
     (rng ((factors.length:Int)+1)/\
     bd (σ:=Int×GRat×(List GRat)) (1,p,[]) λ⟨k1,x2,out⟩ next1=>
      aj (decide (k1<=((factors.length:Int)+1)))
       (cC (α:=GRat×GRat) (λnext2=>
        aj (decide (k1<((factors.length:Int)+1)))
         (rng (k1-1)/\
         ((0:Int)<=(k1-1)/\(k1-1)<(factors.length:Int))/\
         cP (eV (at' factors (k1-1))) λr4=>
         cP (eG x2 r4) λr5=>
         rng (k1-1)/\
         ((0:Int)<=(k1-1)/\(k1-1)<(factors.length:Int))/\
         cP (eG x2 (at' factors (k1-1))) λr6=>
         next2 (r6,r5))
         (next2 (x2,x2)))
        λ⟨x3,x4⟩=>
        rng (((factors.length:Int)+1)-1)/\
        rng (k1-1)/\
        cP (iH (((factors.length:Int)+1)-1) (k1-1)) λr=>
        cP (eF r) λr1=>
        qI (fE x4 r1) λr2 _=>
        ((out++[r2]).length*56<=140737488355328)/\
        rng (k1+1)/\
        next1 ((k1+1),x3,(out++[r2])))
       (Q out 0)))
def iI (g1:GCauseGroup) (p:GRat) (Q:List Int->List GRat->GRat->Prop):Prop:=
 aj (g1.Kind == 0)
  (((0:Int)<=0/\0<(g1.Factors.length:Int))/\
  ui (jQ p (at' g1.Factors 0)) λr r1 _=>
  (((0:Int)<=(g1.Members.length:Int)/\(g1.Members.length:Int)<=64)/\rng (1*2^(Int.toNat (g1.Members.length:Int))))/\
  rng ((1*2^(Int.toNat (g1.Members.length:Int)))-1)/\
  Q [((1*2^(Int.toNat (g1.Members.length:Int)))-1)] [r1] r)
  (jj p g1.Factors λr3 _=>
  bd (σ:=Int×(List Int)×(List GRat)) (1,[],[]) λ⟨set,sets,probs⟩ next1=>
   (((0:Int)<=(g1.Members.length:Int)/\(g1.Members.length:Int)<=64)/\rng (1*2^(Int.toNat (g1.Members.length:Int))))/\
   aj (decide (set<(1*2^(Int.toNat (g1.Members.length:Int)))))
    (bd (σ:=Int×Int) (0,0) λ⟨size,x⟩ next2=>
     aj (decide (x<(g1.Members.length:Int)))
      (((0:Int)<=x/\x<=64)/\
      rng (size+(bits .and .i64 (set / 2^(Int.toNat x)) 1))/\
      iE (size+(bits .and .i64 (set / 2^(Int.toNat x)) 1)) λsize1=>
      rng (x+1)/\
      next2 (size1,(x+1)))
      (aj (decide (1<size))
       (((sets++[set]).length*8<=140737488355328)/\
       rng (size-1)/\
       ((0:Int)<=(size-1)/\(size-1)<(r3.length:Int))/\
       ((probs++[(at' r3 (size-1))]).length*56<=140737488355328)/\
       rng (set+1)/\
       next1 ((set+1),(sets++[set]),(probs++[(at' r3 (size-1))])))
       (rng (set+1)/\
       next1 ((set+1),sets,probs))))
    (((0:Int)<=0/\0<(r3.length:Int))/\
    Q sets probs (at' r3 0)))
def iJ (f:GFormula) (p:List GRat) (groups:List GCauseGroup) (Q:GFormula->List GRat->Int->Prop):Prop:=
 jk f p groups λe=>
 aj (e != 0)
  (Q (⟨0,[],0⟩:GFormula) [] e)
  (((([]:List GRat)++p).length*56<=140737488355328)/\
  bd (σ:=Int×(List GRat)×(List Int)×(List (List Int))) (0,(([]:List GRat)++p),[],[]) λ⟨x,q,first,sets⟩ next1=>
   aj (decide (x<(groups.length:Int)))
    (((0:Int)<=x/\x<(groups.length:Int))/\
    ((0:Int)<=0/\0<(((at' groups x).Members).length:Int))/\
    ((0:Int)<=(at' ((at' groups x).Members) 0)/\(at' ((at' groups x).Members) 0)<(p.length:Int))/\
    ui (iI (at' groups x) (at' p (at' ((at' groups x).Members) 0))) λr r1 r2=>
    ((first++[(q.length:Int)]).length*8<=140737488355328)/\
    ((q++r1).length*56<=140737488355328)/\
    ((sets++[r]).length*24<=140737488355328)/\
    bd (σ:=Int×(List GRat)) (0,(q++r1)) λ⟨x1,q1⟩ next2=>
     aj (decide (x1<(((at' groups x).Members).length:Int)))
      (((0:Int)<=x1/\x1<(((at' groups x).Members).length:Int))/\
      ((0:Int)<=(at' ((at' groups x).Members) x1)/\(at' ((at' groups x).Members) x1)<(q1.length:Int))/\
      rng (x1+1)/\
      next2 ((x1+1),(cg q1 (at' ((at' groups x).Members) x1) r2)))
      (rng (x+1)/\
      next1 ((x+1),q1,(first++[(q.length:Int)]),(sets++[r]))))
    (mL 8 f.Vars f.Vars/\
    bd (σ:=Int×(List Int)) (0,(fh f.Vars 0)) λ⟨x2,now⟩ next3=>
     aj (decide (x2<((Int.toNat f.Vars):Int)))
      (((0:Int)<=x2/\x2<(now.length:Int))/\
      rng (x2+1)/\
      next3 ((x2+1),(cg now x2 x2)))
      (bd (σ:=Int×(List Int)×(List GNode)) (0,now,[]) λ⟨x3,now1,x4⟩ next4=>
       aj (decide (x3<(groups.length:Int)))
        (((0:Int)<=x3/\x3<(groups.length:Int))/\
        bd (σ:=Int×(List Int)×(List GNode)) (0,now1,x4) λ⟨x5,now2,x6⟩ next5=>
         aj (decide (x5<(((at' groups x3).Members).length:Int)))
          (((0:Int)<=x5/\x5<(((at' groups x3).Members).length:Int))/\
          ((0:Int)<=x3/\x3<(sets.length:Int))/\
          bd (σ:=Int×(List Int)) (0,[(at' ((at' groups x3).Members) x5)]) λ⟨x7,x8⟩ next6=>
           aj (decide (x7<((at' sets x3).length:Int)))
            (((0:Int)<=x7/\x7<((at' sets x3).length:Int))/\
            ((0:Int)<=x5/\x5<=64)/\
            aj ((bits .and .i64 ((at' (at' sets x3) x7) / 2^(Int.toNat x5)) 1) == 1)
             (((0:Int)<=x3/\x3<(first.length:Int))/\
             rng ((at' first x3)+x7)/\
             ((x8++[((at' first x3)+x7)]).length*8<=140737488355328)/\
             rng (x7+1)/\
             next6 ((x7+1),(x8++[((at' first x3)+x7)])))
             (rng (x7+1)/\
             next6 ((x7+1),x8)))
            (rng ((q.length:Int)+(x6.length:Int))/\
            ((0:Int)<=(at' ((at' groups x3).Members) x5)/\(at' ((at' groups x3).Members) x5)<(now2.length:Int))/\
            ((x6++[(⟨3,0,x8⟩:GNode)]).length*40<=140737488355328)/\
            rng (x5+1)/\
            next5 ((x5+1),(cg now2 (at' ((at' groups x3).Members) x5) ((q.length:Int)+(x6.length:Int))),(x6++[(⟨3,0,x8⟩:GNode)]))))
          (rng (x3+1)/\
          next4 ((x3+1),now2,x6)))
        (rng ((q.length:Int)+(x4.length:Int))/\
        bd (σ:=Int×(List Int)) (0,now1) λ⟨x9,now3⟩ next7=>
         aj (decide (x9<(f.Nodes.length:Int)))
          (rng (((q.length:Int)+(x4.length:Int))+x9)/\
          ((now3++[(((q.length:Int)+(x4.length:Int))+x9)]).length*8<=140737488355328)/\
          rng (x9+1)/\
          next7 ((x9+1),(now3++[(((q.length:Int)+(x4.length:Int))+x9)])))
          (bd (σ:=Int×(List GNode)) (0,x4) λ⟨x10,x11⟩ next8=>
           aj (decide (x10<(f.Nodes.length:Int)))
            (((0:Int)<=x10/\x10<(f.Nodes.length:Int))/\
            bd (σ:=Int×(List Int)) (0,[]) λ⟨x12,x13⟩ next9=>
             aj (decide (x12<(((at' f.Nodes x10).Args).length:Int)))
              (((0:Int)<=x12/\x12<(((at' f.Nodes x10).Args).length:Int))/\
              ((0:Int)<=(at' ((at' f.Nodes x10).Args) x12)/\(at' ((at' f.Nodes x10).Args) x12)<(now3.length:Int))/\
              ((x13++[(at' now3 (at' ((at' f.Nodes x10).Args) x12))]).length*8<=140737488355328)/\
              rng (x12+1)/\
              next9 ((x12+1),(x13++[(at' now3 (at' ((at' f.Nodes x10).Args) x12))])))
              (((x11++[(⟨(at' f.Nodes x10).Kind,(at' f.Nodes x10).K,x13⟩:GNode)]).length*40<=140737488355328)/\
              rng (x10+1)/\
              next8 ((x10+1),(x11++[(⟨(at' f.Nodes x10).Kind,(at' f.Nodes x10).K,x13⟩:GNode)]))))
            (((0:Int)<=f.Top/\f.Top<(now3.length:Int))/\
            cC (α:=Bool) (λnext10=>
             aj (decide (24<(q.length:Int)))
              (next10 true)
              (next10 (decide (128<(x11.length:Int)))))
             λx14=>
             aj x14
              (Q (⟨0,[],0⟩:GFormula) [] 4)
              (Q (⟨(q.length:Int),x11,(at' now3 f.Top)⟩:GFormula) q 0)))))))
end Go.Gg
namespace Go.Gg
def cm (n:Int) (d:Int) (Q:GRat->Prop):Prop:=
 im n d λr _=>
 Q r
def gF (Q:Bool->Prop):Prop:=
 cm 1 10 λr=>
 cm 1 2 λr1=>
 gI r r1 λr2 r3 r4=>
 eF 1 λr5=>
 cm 1 2 λr6=>
 cm 1 3 λr7=>
 fX r5 [r6,r7] λr8 r9=>
 aj (Option.isNone r4)
  (aj (Option.isNone r9)
   (cP (cm 1 19) λr10=>
   cP (fC r2 r10) λr11=>
   aj r11
    (cP (cm 1 20) λr12=>
    cP (fC r3 r12) λr13=>
    aj r13
     (cP (cm 1 2) λr14=>
     cP (cm 1 6) λr15=>
     cP (cm 1 6) λr16=>
     cP (gR r8 [r14,r15,r16]) λr17=>
     Q r17)
     (Q false))
    (Q false))
   (Q false))
  (Q false)
def gE (l:List GRat) (Q:Bool->Prop):Prop:=
 bd (σ:=Int) 0 λx next1=>
  aj (decide (x<(l.length:Int)))
   (((0:Int)<=x/\x<(l.length:Int))/\
   ju (at' l x) λr=>
   aj (!r)
    (Q false)
    (rng (x+1)/\
    next1 (x+1)))
   (Q (decide ((l.length:Int)<=60)))
def jt (l:List GCauseGroup) (Q:Bool->Prop):Prop:=
 bd (σ:=Int) 0 λx next1=>
  aj (decide (x<(l.length:Int)))
   (((0:Int)<=x/\x<(l.length:Int))/\
   aj (decide (60<(((at' l x).Members).length:Int)))
    (Q false)
    (gE ((at' l x).Factors) λr=>
    aj (!r)
     (Q false)
     (rng (x+1)/\
     next1 (x+1))))
   (Q (decide ((l.length:Int)<=30)))
end Go.Gg
namespace Go.Gg
def gb (f:GFormula) (x:GCauses) (Q:Bool->Prop):Prop:=
 cC (α:=Bool) (λnext1=>
  gF λr10=>
  aj (!r10)
   (next1 true)
   (jv f λr11=>
   aj (!r11)
    (next1 true)
    (gE x.P λr12=>
    aj (!r12)
     (next1 true)
     (jt x.Groups λr13=>
     next1 (!r13)))))
  λx1=>
  aj x1
   (gF λr=>
   Q r)
   (ib f x.P x.Groups λr1 r2 r3=>
   iJ f x.P x.Groups λr4 r5 r6=>
   l9 r3 λr7=>
   aj (r7 == r6)
    (iY r1 r4 λr8=>
    aj r8
     (gR r2 r5 λr9=>
     Q r9)
     (Q false))
    (Q false))
end Go.Gg
