/- The structures of the program and how they are encoded. Conditions: none. -/
import Derived.Test.YtnjgdkfhgmebjaaGreatGc
import Derived.Test.YtnjgdkfhgmebjaaGreatGf
import Derived.Test.YtnjgdkfhgmebjaaGreatGd
namespace Go.Gg
structure GNode where
 Kind:Int
 K:Int
 Args:List Int
instance:Inhabited GNode:=⟨⟨0,0,[]⟩⟩
def bL (r:GNode):AV:=.agg [.int .i64 r.Kind,.int .i64 r.K,eL (AV.int .i64) r.Args]
structure GFormula where
 Vars:Int
 Nodes:List GNode
 Top:Int
instance:Inhabited GFormula:=⟨⟨0,[],0⟩⟩
def aG (r:GFormula):AV:=.agg [.int .i64 r.Vars,eL bL r.Nodes,.int .i64 r.Top]
structure GRat where
 Neg:Bool
 Num:List Int
 Den:List Int
instance:Inhabited GRat:=⟨⟨false,[],[]⟩⟩
def aH (r:GRat):AV:=.agg [.bool r.Neg,eL (AV.int .u32) r.Num,eL (AV.int .u32) r.Den]
structure GCauseGroup where
 Kind:Int
 Members:List Int
 Factors:List GRat
instance:Inhabited GCauseGroup:=⟨⟨0,[],[]⟩⟩
structure GCauses where
 P:List GRat
 Groups:List GCauseGroup
instance:Inhabited GCauses:=⟨⟨[],[]⟩⟩
structure GMission where
 Phases:List GFormula
 P:List (List GRat)
instance:Inhabited GMission:=⟨⟨[],[]⟩⟩
def aO (r:GMission):AV:=.agg [eL aG r.Phases,eL (eL aH) r.P]
structure GCube where
 Yes:Int
 No:Int
instance:Inhabited GCube:=⟨⟨0,0⟩⟩
structure Gcause where
 p:GRat
 members:List Int
instance:Inhabited Gcause:=⟨⟨default,[]⟩⟩
structure GDNode where
 Var:Int
 Lo:Int
 Hi:Int
instance:Inhabited GDNode:=⟨⟨0,0,0⟩⟩
def aZ (r:GDNode):AV:=.agg [.int .i64 r.Var,.int .i64 r.Lo,.int .i64 r.Hi]
structure GDiagram where
 Order:List Int
 Nodes:List GDNode
 Root:Int
instance:Inhabited GDiagram:=⟨⟨[],[],0⟩⟩
def jY (r:GDiagram):AV:=.agg [eL (AV.int .i64) r.Order,eL aZ r.Nodes,.int .i64 r.Root]
structure GZero where
 Nodes:List GDNode
 Root:Int
instance:Inhabited GZero:=⟨⟨[],0⟩⟩
structure Gtable where
 events:List Int
 true:List Bool
instance:Inhabited Gtable:=⟨⟨[],[]⟩⟩
structure Gwalk where
 Formula:GFormula
 events:List Int
 seen:List Bool
instance:Inhabited Gwalk:=⟨⟨default,[],[]⟩⟩
structure GsetsKey where
 op:Int
 a:Int
 b:Int
instance:Inhabited GsetsKey:=⟨⟨0,0,0⟩⟩
end Go.Gg
namespace Go.Gg
def lX:ByteArray:=⟨#[0,1,2,2,3,3,3,3,4,4,4,4,4,4,4,4,5,5,5,5,5,5,5,5,5,5,5,5,5,5,5,5,6,6,6,6,6,6,6,6,6,6,6,6,6,6,6,6,6,6,6,6,6,6,6,6,6,6,6,6,6,6,6,6,7,7,7,7,7,7,7,7,7,7,7,7,7,7,7,7,7,7,7,7,7,7,7,7,7,7,7,7,7,7,7,7,7,7,7,7,7,7,7,7,7,7,7,7,7,7,7,7,7,7,7,7,7,7,7,7,7,7,7,7,7,7,7,7,8,8,8,8,8,8,8,8,8,8,8,8,8,8,8,8,8,8,8,8,8,8,8,8,8,8,8,8,8,8,8,8,8,8,8,8,8,8,8,8,8,8,8,8,8,8,8,8,8,8,8,8,8,8,8,8,8,8,8,8,8,8,8,8,8,8,8,8,8,8,8,8,8,8,8,8,8,8,8,8,8,8,8,8,8,8,8,8,8,8,8,8,8,8,8,8,8,8,8,8,8,8,8,8,8,8,8,8,8,8,8,8,8,8,8,8,8,8,8,8,8,8,8,8,8,8,8,8]⟩
def dG (a:List Int) (Q:List Int->Prop):Prop:=
 gR (α:=Int) (λnext1=>
  bW (σ:=Int) (a.length:Int) λn1 next2=>
   aF (decide (0<n1))
    (rng (n1-1)/\
    ((0:Int)<=(n1-1)/\(n1-1)<(a.length:Int))/\
    aF ((at' a (n1-1)) == 0)
     (rng (n1-1)/\
     next2 (n1-1))
     (next1 n1))
    (next1 n1))
  λn=>
  aF (n == 0)
   (Q [])
   (((0:Int)<=0/\0<=n/\n<=(a.length:Int))/\
   (([]++(eV a 0 n)).length*4<=140737488355328)/\
   Q ([]++(eV a 0 n)))
def gH (a:List Int) (b:List Int) (Q:Int->Prop):Prop:=
 dG a λa1=>
 dG b λb1=>
 aF ((a1.length:Int) != (b1.length:Int))
  (aF (decide ((a1.length:Int)<(b1.length:Int)))
   (Q (-1))
   (Q 1))
  (rng ((a1.length:Int)-1)/\
  bW (σ:=Int) ((a1.length:Int)-1) λi next1=>
   aF (decide (0<=i))
    (((0:Int)<=i/\i<(a1.length:Int))/\
    ((0:Int)<=i/\i<(b1.length:Int))/\
    aF (decide ((at' a1 i)<(at' b1 i)))
     (Q (-1))
     (((0:Int)<=i/\i<(a1.length:Int))/\
     ((0:Int)<=i/\i<(b1.length:Int))/\
     aF (decide ((at' b1 i)<(at' a1 i)))
      (Q 1)
      (rng (i-1)/\
      next1 (i-1))))
    (Q 0))
def sM (n:Int) (Q:List Int->Prop):Prop:=
 aF (decide (n<=0))
  (Q [])
  (dG [(IntKind.wrap .u32 n),(IntKind.wrap .u32 (n / 2^(Int.toNat 32)))] λr=>
  Q r)
def nJ (a:List Int) (b:Int) (Q:List Int->Int->Prop):Prop:=
 rB 4 (a.length:Int) (a.length:Int)/\
 rng ((a.length:Int)-1)/\
 bW (σ:=Int×Int×(List Int)) (0,((a.length:Int)-1),(cQ (a.length:Int) 0)) λ⟨rest,i,out⟩ next1=>
  aF (decide (0<=i))
   (((0:Int)<=i/\i<(a.length:Int))/\
   sH (bits .or .u64 (IntKind.wrap .u64 (rest*2^(Int.toNat 32))) (IntKind.wrap .u64 (at' a i))) λrest1=>
   (IntKind.wrap .u64 b)≠0/\
   ((0:Int)<=i/\i<(out.length:Int))/\
   (IntKind.wrap .u64 b)≠0/\
   rng (i-1)/\
   next1 ((Int.tmod rest1 (IntKind.wrap .u64 b)),(i-1),(cC out i (IntKind.wrap .u32 (IntKind.wrap .u64 (Int.tdiv rest1 (IntKind.wrap .u64 b)))))))
   (dG out λr=>
   Q r (IntKind.wrap .u32 rest))
def lE (x:Int) (Q:Int->Prop):Prop:=
 gR (α:=Int×Int) (λnext2=>
  aF (decide (65536<=x))
   (next2 ((x / 2^(Int.toNat 16)),16))
   (next2 (x,0)))
  λ⟨x1,n⟩=>
  gR (α:=Int×Int) (λnext1=>
   aF (decide (256<=x1))
    (rng (n+8)/\
    next1 ((x1 / 2^(Int.toNat 8)),(n+8)))
    (next1 (x1,n)))
   λ⟨x2,n1⟩=>
   ((0:Int)<=(IntKind.wrap .u8 x2)/\(IntKind.wrap .u8 x2)<(lX.size:Int))/\
   rng (n1+(IntKind.wrap .i64 (aBi lX (Int.toNat (IntKind.wrap .u8 x2)))))/\
   sH (n1+(IntKind.wrap .i64 (aBi lX (Int.toNat (IntKind.wrap .u8 x2))))) λn2=>
   Q n2
def iR (x:Int) (Q:Int->Prop):Prop:=
 lE x λr=>
 rng (32-r)/\
 Q (32-r)
def iQ (a:List Int) (n:Int) (Q:List Int->Prop):Prop:=
 rng ((a.length:Int)+1)/\
 rB 4 ((a.length:Int)+1) ((a.length:Int)+1)/\
 bW (σ:=Int×(List Int)) (0,(cQ ((a.length:Int)+1) 0)) λ⟨x,out⟩ next1=>
  aF (decide (x<(a.length:Int)))
   (((0:Int)<=x/\x<(a.length:Int))/\
   ((0:Int)<=n/\n<=64)/\
   sH (IntKind.wrap .u64 ((IntKind.wrap .u64 (at' a x))*2^(Int.toNat n))) λy1=>
   ((0:Int)<=x/\x<(out.length:Int))/\
   ((0:Int)<=x/\x<(out.length:Int))/\
   rng (x+1)/\
   ((0:Int)<=(x+1)/\(x+1)<(out.length:Int))/\
   rng (x+1)/\
   next1 ((x+1),(cC (cC out x (bits .or .u32 (at' out x) (IntKind.wrap .u32 y1))) (x+1) (IntKind.wrap .u32 (y1 / 2^(Int.toNat 32))))))
   (Q out)
def fB (a:List Int) (i:Int) (Q:Int->Prop):Prop:=
 aF (decide (i<(a.length:Int)))
  (((0:Int)<=i/\i<(a.length:Int))/\
  Q (IntKind.wrap .u64 (at' a i)))
  (Q 0)
def tV (u:List Int) (uo:Nat) (ul:Nat) (v:List Int) (n:Int) (Q:List Int->Bool->Prop):Prop:=
 bW (σ:=Int×Int×Int×(List Int)) (0,0,0,u) λ⟨carry,borrow,x,u1⟩ next1=>
  aF (decide (x<(ul:Int)))
   (fB v x λr=>
   sH (IntKind.wrap .u64 (carry+(IntKind.wrap .u64 (n*r)))) λcarry1=>
   ((0:Int)<=x/\x<(ul:Int))/\
   (Int.toNat ((uo:Int)+x))<u1.length/\
   sH (IntKind.wrap .u64 ((IntKind.wrap .u64 ((IntKind.wrap .u64 (at' u1 ((uo:Int)+x)))-(IntKind.wrap .u64 (IntKind.wrap .u32 carry1))))-borrow)) λd=>
   ((0:Int)<=x/\x<(ul:Int))/\
   (Int.toNat ((uo:Int)+x))<u1.length/\
   rng (x+1)/\
   next1 ((carry1 / 2^(Int.toNat 32)),(d / 2^(Int.toNat 63)),(x+1),(cC u1 ((uo:Int)+x) (IntKind.wrap .u32 d))))
   (Q u1 (borrow == 1))
def tW (u:List Int) (uo:Nat) (ul:Nat) (v:List Int) (Q:List Int->Prop):Prop:=
 bW (σ:=Int×Int×(List Int)) (0,0,u) λ⟨carry,x,u1⟩ next1=>
  aF (decide (x<(ul:Int)))
   (((0:Int)<=x/\x<(ul:Int))/\
   (Int.toNat ((uo:Int)+x))<u1.length/\
   fX (fB v x) λr=>
   ((0:Int)<=x/\x<(ul:Int))/\
   (Int.toNat ((uo:Int)+x))<u1.length/\
   sH ((IntKind.wrap .u64 (carry+(IntKind.wrap .u64 ((IntKind.wrap .u64 (at' u1 ((uo:Int)+x)))+r)))) / 2^(Int.toNat 32)) λcarry1=>
   rng (x+1)/\
   next1 (carry1,(x+1),(cC u1 ((uo:Int)+x) (IntKind.wrap .u32 (IntKind.wrap .u64 (carry+(IntKind.wrap .u64 ((IntKind.wrap .u64 (at' u1 ((uo:Int)+x)))+r))))))))
   (Q u1)
def nK (a:List Int) (n:Int) (Q:List Int->Prop):Prop:=
 rB 4 (a.length:Int) (a.length:Int)/\
 bW (σ:=Int×(List Int)) (0,(cQ (a.length:Int) 0)) λ⟨x,out⟩ next1=>
  aF (decide (x<(a.length:Int)))
   (fB a x λr=>
   rng (x+1)/\
   fB a (x+1) λr1=>
   ((0:Int)<=n/\n<=64)/\
   ((0:Int)<=x/\x<(out.length:Int))/\
   rng (x+1)/\
   next1 ((x+1),(cC out x (IntKind.wrap .u32 ((bits .or .u64 r (IntKind.wrap .u64 (r1*2^(Int.toNat 32)))) / 2^(Int.toNat n))))))
   (Q out)
def nB (a:List Int) (b:List Int) (Q:List Int->List Int->Option Int->Prop):Prop:=
 dG a λa1=>
 dG b λb1=>
 aF ((b1.length:Int) == 0)
  (Q [] [] (some 8))
  (gH a1 b1 λr=>
  aF (decide (r<0))
   (Q [] a1 none)
   (aF ((b1.length:Int) == 1)
    (((0:Int)<=0/\0<(b1.length:Int))/\
    nJ a1 (at' b1 0) λr1 r2=>
    sM (IntKind.wrap .i64 r2) λr3=>
    Q r1 r3 none)
    (rng ((b1.length:Int)-1)/\
    ((0:Int)<=((b1.length:Int)-1)/\((b1.length:Int)-1)<(b1.length:Int))/\
    iR (at' b1 ((b1.length:Int)-1)) λn=>
    iQ b1 n λr4=>
    ((0:Int)<=0/\0<=(b1.length:Int)/\(b1.length:Int)<=(r4.length:Int))/\
    sH (eV r4 0 (b1.length:Int)) λv=>
    iQ a1 n λu=>
    rng ((v.length:Int)-1)/\
    ((0:Int)<=((v.length:Int)-1)/\((v.length:Int)-1)<(v.length:Int))/\
    rng ((v.length:Int)-2)/\
    ((0:Int)<=((v.length:Int)-2)/\((v.length:Int)-2)<(v.length:Int))/\
    rng ((u.length:Int)-(v.length:Int))/\
    rB 4 ((u.length:Int)-(v.length:Int)) ((u.length:Int)-(v.length:Int))/\
    rng (((Int.toNat ((u.length:Int)-(v.length:Int))):Int)-1)/\
    sH (((Int.toNat ((u.length:Int)-(v.length:Int))):Int)-1) λj=>
    bW (σ:=Int×(List Int)×(List Int)) (j,u,(cQ ((u.length:Int)-(v.length:Int)) 0)) λ⟨j1,u1,q⟩ next1=>
     aF (decide (0<=j1))
      (rng (j1+(v.length:Int))/\
      ((0:Int)<=(j1+(v.length:Int))/\(j1+(v.length:Int))<(u1.length:Int))/\
      rng (j1+(v.length:Int))/\
      rng ((j1+(v.length:Int))-1)/\
      ((0:Int)<=((j1+(v.length:Int))-1)/\((j1+(v.length:Int))-1)<(u1.length:Int))/\
      (IntKind.wrap .u64 (at' v ((v.length:Int)-1)))≠0/\
      (IntKind.wrap .u64 (at' v ((v.length:Int)-1)))≠0/\
      gR (α:=Int) (λnext3=>
       bW (σ:=Int×Int) ((IntKind.wrap .u64 (Int.tdiv (bits .or .u64 (IntKind.wrap .u64 ((IntKind.wrap .u64 (at' u1 (j1+(v.length:Int))))*2^(Int.toNat 32))) (IntKind.wrap .u64 (at' u1 ((j1+(v.length:Int))-1)))) (IntKind.wrap .u64 (at' v ((v.length:Int)-1))))),(Int.tmod (bits .or .u64 (IntKind.wrap .u64 ((IntKind.wrap .u64 (at' u1 (j1+(v.length:Int))))*2^(Int.toNat 32))) (IntKind.wrap .u64 (at' u1 ((j1+(v.length:Int))-1)))) (IntKind.wrap .u64 (at' v ((v.length:Int)-1))))) λ⟨guess2,rest⟩ next4=>
        gR (α:=Unit) (λnext5=>
         aF (decide (4294967296<=guess2))
          (next5 ())
          (rng (j1+(v.length:Int))/\
          rng ((j1+(v.length:Int))-2)/\
          ((0:Int)<=((j1+(v.length:Int))-2)/\((j1+(v.length:Int))-2)<(u1.length:Int))/\
          aF (decide ((bits .or .u64 (IntKind.wrap .u64 (rest*2^(Int.toNat 32))) (IntKind.wrap .u64 (at' u1 ((j1+(v.length:Int))-2))))<(IntKind.wrap .u64 (guess2*(IntKind.wrap .u64 (at' v ((v.length:Int)-2)))))))
           (next5 ())
           (next3 guess2)))
         λ_=>
         sH (IntKind.wrap .u64 (rest+(IntKind.wrap .u64 (at' v ((v.length:Int)-1))))) λrest1=>
         aF (decide (4294967296<=rest1))
          (next3 (IntKind.wrap .u64 (guess2-1)))
          (next4 ((IntKind.wrap .u64 (guess2-1)),rest1)))
       λguess=>
       gR (α:=Int×(List Int)) (λnext2=>
        rng (j1+(v.length:Int))/\
        rng ((j1+(v.length:Int))+1)/\
        ((0:Int)<=j1/\j1<=((j1+(v.length:Int))+1)/\((j1+(v.length:Int))+1)<=(u1.length:Int))/\
        tV u1 (0+Int.toNat j1) (Int.toNat ((j1+(v.length:Int))+1)-Int.toNat j1) v guess λu3 r5=>
        u3.length=u1.length/\
        aF r5
         (rng (j1+(v.length:Int))/\
         rng ((j1+(v.length:Int))+1)/\
         ((0:Int)<=j1/\j1<=((j1+(v.length:Int))+1)/\((j1+(v.length:Int))+1)<=(u1.length:Int))/\
         tW u3 (0+Int.toNat j1) (Int.toNat ((j1+(v.length:Int))+1)-Int.toNat j1) v λu4=>
         u4.length=u3.length/\
         next2 ((IntKind.wrap .u64 (guess-1)),u4))
         (next2 (guess,u3)))
        λ⟨guess1,u2⟩=>
        ((0:Int)<=j1/\j1<(q.length:Int))/\
        rng (j1-1)/\
        next1 ((j1-1),u2,(cC q j1 (IntKind.wrap .u32 guess1))))
      (dG q λq1=>
      nK u1 n λr6=>
      dG r6 λr7=>
      Q q1 r7 none))))
def qM (a:List Int) (b:List Int) (Q:List Int->Prop):Prop:=
 dG a λa1=>
 dG b λb1=>
 bW (σ:=(List Int)×(List Int)) (a1,b1) λ⟨a2,b2⟩ next1=>
  aF (decide (0<(b2.length:Int)))
   (nB a2 b2 λ_ r1 _=>
   next1 (b2,r1))
   (Q a2)
def iH (a:List Int) (b:List Int) (Q:List Int->Prop):Prop:=
 rng ((a.length:Int)+(b.length:Int))/\
 rB 4 ((a.length:Int)+(b.length:Int)) ((a.length:Int)+(b.length:Int))/\
 bW (σ:=Int×(List Int)) (0,(cQ ((a.length:Int)+(b.length:Int)) 0)) λ⟨x,out⟩ next1=>
  aF (decide (x<(a.length:Int)))
   (((0:Int)<=x/\x<(a.length:Int))/\
   bW (σ:=Int×Int×(List Int)) (0,0,out) λ⟨carry,x1,out1⟩ next2=>
    aF (decide (x1<(b.length:Int)))
     (((0:Int)<=x1/\x1<(b.length:Int))/\
     rng (x+x1)/\
     ((0:Int)<=(x+x1)/\(x+x1)<(out1.length:Int))/\
     sH (IntKind.wrap .u64 (carry+(IntKind.wrap .u64 ((IntKind.wrap .u64 ((IntKind.wrap .u64 (at' a x))*(IntKind.wrap .u64 (at' b x1))))+(IntKind.wrap .u64 (at' out1 (x+x1))))))) λcarry1=>
     rng (x+x1)/\
     ((0:Int)<=(x+x1)/\(x+x1)<(out1.length:Int))/\
     rng (x1+1)/\
     next2 ((carry1 / 2^(Int.toNat 32)),(x1+1),(cC out1 (x+x1) (IntKind.wrap .u32 carry1))))
     (rng (x+(b.length:Int))/\
     ((0:Int)<=(x+(b.length:Int))/\(x+(b.length:Int))<(out1.length:Int))/\
     rng (x+1)/\
     next1 ((x+1),(cC out1 (x+(b.length:Int)) (IntKind.wrap .u32 carry)))))
   (dG out λr=>
   Q r)
def tX (a:List Int) (Q:Int->Prop):Prop:=
 rng ((a.length:Int)-1)/\
 bW (σ:=Int) ((a.length:Int)-1) λi next1=>
  aF (decide (0<=i))
   (((0:Int)<=i/\i<(a.length:Int))/\
   aF ((at' a i) != 0)
    (rng (32*i)/\
    ((0:Int)<=i/\i<(a.length:Int))/\
    lE (at' a i) λr=>
    rng ((32*i)+r)/\
    Q ((32*i)+r))
    (rng (i-1)/\
    next1 (i-1)))
   (Q 0)
def qN (a:List Int) (b:List Int) (Q:List Int->Prop):Prop:=
 rng ((max (a.length:Int) (b.length:Int))+1)/\
 rB 4 ((max (a.length:Int) (b.length:Int))+1) ((max (a.length:Int) (b.length:Int))+1)/\
 bW (σ:=Int×Int×(List Int)) (0,0,(cQ ((max (a.length:Int) (b.length:Int))+1) 0)) λ⟨carry,x,out⟩ next1=>
  aF (decide (x<((Int.toNat ((max (a.length:Int) (b.length:Int))+1)):Int)))
   (fB a x λr=>
   fB b x λr1=>
   sH (IntKind.wrap .u64 (carry+(IntKind.wrap .u64 (r+r1)))) λcarry1=>
   ((0:Int)<=x/\x<(out.length:Int))/\
   rng (x+1)/\
   next1 ((carry1 / 2^(Int.toNat 32)),(x+1),(cC out x (IntKind.wrap .u32 carry1))))
   (dG out λr2=>
   Q r2)
def qL (a:List Int) (b:List Int) (Q:List Int->Option Int->Prop):Prop:=
 gH a b λr=>
 aF (decide (r<0))
  (Q [] (some 3))
  (rB 4 (a.length:Int) (a.length:Int)/\
  bW (σ:=Int×Int×(List Int)) (0,0,(cQ (a.length:Int) 0)) λ⟨borrow,x,out⟩ next1=>
   aF (decide (x<((Int.toNat (a.length:Int)):Int)))
    (fB a x λr1=>
    fB b x λr2=>
    sH (IntKind.wrap .u64 ((IntKind.wrap .u64 (r1-r2))-borrow)) λd=>
    ((0:Int)<=x/\x<(out.length:Int))/\
    rng (x+1)/\
    next1 ((d / 2^(Int.toNat 63)),(x+1),(cC out x (IntKind.wrap .u32 d))))
    (dG out λr3=>
    Q r3 none))
def oV (a:List Int) (Q:Int->Prop):Prop:=
 bW (σ:=Int×Int) (0,0) λ⟨n,x⟩ next1=>
  aF (decide (x<(a.length:Int)))
   (((0:Int)<=x/\x<(a.length:Int))/\
   bW (σ:=Int×Int) (n,0) λ⟨n1,x1⟩ next2=>
    aF (decide (x1<32))
     (((0:Int)<=x1/\x1<=32)/\
     aF ((bits .and .u32 ((at' a x) / 2^(Int.toNat x1)) 1) == 1)
      (rng (32*x)/\
      rng ((32*x)+x1)/\
      rng (((32*x)+x1)+1)/\
      rng (x1+1)/\
      next2 ((((32*x)+x1)+1),(x1+1)))
      (rng (x1+1)/\
      next2 (n1,(x1+1))))
     (rng (x+1)/\
     next1 (n1,(x+1))))
   (Q n)
def fD (a:List Int) (Q:List Int->Prop):Prop:=
 gR (α:=Int) (λnext1=>
  bW (σ:=Int) (a.length:Int) λn1 next2=>
   aF (decide (0<n1))
    (rng (n1-1)/\
    ((0:Int)<=(n1-1)/\(n1-1)<(a.length:Int))/\
    aF ((at' a (n1-1)) == 0)
     (rng (n1-1)/\
     next2 (n1-1))
     (next1 n1))
    (next1 n1))
  λn=>
  ((0:Int)<=0/\0<=n/\n<=(a.length:Int))/\
  (([]++(eV a 0 n)).length*4<=140737488355328)/\
  Q ([]++(eV a 0 n))
def dX (a:List Int) (i:Int) (Q:Int->Prop):Prop:=
 aF (decide (i<(a.length:Int)))
  (((0:Int)<=i/\i<(a.length:Int))/\
  Q (IntKind.wrap .u64 (at' a i)))
  (Q 0)
def jJ (a:List Int) (b:List Int) (Q:List Int->Prop):Prop:=
 rng ((a.length:Int)+(b.length:Int))/\
 rng (((a.length:Int)+(b.length:Int))+1)/\
 rB 4 (((a.length:Int)+(b.length:Int))+1) (((a.length:Int)+(b.length:Int))+1)/\
 bW (σ:=Int×(List Int)) (0,(cQ (((a.length:Int)+(b.length:Int))+1) 0)) λ⟨x,out⟩ next1=>
  aF (decide (x<(a.length:Int)))
   (((0:Int)<=x/\x<(a.length:Int))/\
   rng ((b.length:Int)+1)/\
   bW (σ:=Int×Int×(List Int)) (0,0,out) λ⟨carry,x1,out1⟩ next2=>
    aF (decide (x1<((b.length:Int)+1)))
     (fX (dX b x1) λr=>
     rng (x+x1)/\
     ((0:Int)<=(x+x1)/\(x+x1)<(out1.length:Int))/\
     rng (x+x1)/\
     ((0:Int)<=(x+x1)/\(x+x1)<(out1.length:Int))/\
     sH ((IntKind.wrap .u64 ((IntKind.wrap .u64 ((IntKind.wrap .u64 ((IntKind.wrap .u64 (at' a x))*r))+(IntKind.wrap .u64 (at' out1 (x+x1)))))+carry)) / 2^(Int.toNat 32)) λcarry1=>
     rng (x1+1)/\
     next2 (carry1,(x1+1),(cC out1 (x+x1) (IntKind.wrap .u32 (IntKind.wrap .u64 ((IntKind.wrap .u64 ((IntKind.wrap .u64 ((IntKind.wrap .u64 (at' a x))*r))+(IntKind.wrap .u64 (at' out1 (x+x1)))))+carry))))))
     (rng (x+1)/\
     next1 ((x+1),out1)))
   (fD out λr1=>
   Q r1)
def oC (a:List Int) (b:List Int) (Q:Int->Prop):Prop:=
 rng ((max (a.length:Int) (b.length:Int))-1)/\
 sH ((max (a.length:Int) (b.length:Int))-1) λi=>
 bW (σ:=Int) i λi1 next1=>
  aF (decide (0<=i1))
   (dX a i1 λr=>
   dX b i1 λr1=>
   aF (decide (r<r1))
    (Q (-1))
    (dX a i1 λr2=>
    dX b i1 λr3=>
    aF (decide (r3<r2))
     (Q 1)
     (rng (i1-1)/\
     next1 (i1-1))))
   (Q 0)
def qW (a:List Int) (b:List Int) (Q:List Int->Int->Prop):Prop:=
 oC a b λr=>
 aF (decide (r<0))
  (Q [] 3)
  (bW (σ:=Int×Int×(List Int)) (0,0,[]) λ⟨borrow,x,out⟩ next1=>
   aF (decide (x<(a.length:Int)))
    (dX a x λr1=>
    dX b x λr2=>
    sH (IntKind.wrap .u64 ((IntKind.wrap .u64 (r1-r2))-borrow)) λs=>
    ((out++[(IntKind.wrap .u32 s)]).length*4<=140737488355328)/\
    rng (x+1)/\
    next1 ((s / 2^(Int.toNat 63)),(x+1),(out++[(IntKind.wrap .u32 s)])))
    (fD out λr3=>
    Q r3 0))
def xO (a:List Int) (s:Int) (Q:List Int->Prop):Prop:=
 bW (σ:=Int×Int×(List Int)) (0,0,[]) λ⟨carry,x,out⟩ next1=>
  aF (decide (x<(a.length:Int)))
   (((0:Int)<=x/\x<(a.length:Int))/\
   ((0:Int)<=s/\s<=64)/\
   sH (bits .or .u64 carry (IntKind.wrap .u64 ((IntKind.wrap .u64 (at' a x))*2^(Int.toNat s)))) λcarry1=>
   ((out++[(IntKind.wrap .u32 carry1)]).length*4<=140737488355328)/\
   rng (x+1)/\
   next1 ((carry1 / 2^(Int.toNat 32)),(x+1),(out++[(IntKind.wrap .u32 carry1)])))
   (((out++[(IntKind.wrap .u32 carry)]).length*4<=140737488355328)/\
   fD (out++[(IntKind.wrap .u32 carry)]) λr=>
   Q r)
def sK (a:List Int) (s:Int) (Q:List Int->Prop):Prop:=
 bW (σ:=Int×(List Int)) (0,[]) λ⟨x,out⟩ next1=>
  aF (decide (x<(a.length:Int)))
   (dX a x λr=>
   rng (x+1)/\
   dX a (x+1) λr1=>
   ((0:Int)<=s/\s<=64)/\
   ((out++[(IntKind.wrap .u32 ((bits .or .u64 r (IntKind.wrap .u64 (r1*2^(Int.toNat 32)))) / 2^(Int.toNat s)))]).length*4<=140737488355328)/\
   rng (x+1)/\
   next1 ((x+1),(out++[(IntKind.wrap .u32 ((bits .or .u64 r (IntKind.wrap .u64 (r1*2^(Int.toNat 32)))) / 2^(Int.toNat s)))])))
   (fD out λr2=>
   Q r2)
def qX (a:List Int) (b:List Int) (Q:List Int->List Int->Int->Prop):Prop:=
 fD b λb1=>
 aF ((b1.length:Int) == 0)
  (Q [] [] 8)
  (bW (σ:=Int) 0 λs next1=>
   rng ((b1.length:Int)-1)/\
   ((0:Int)<=((b1.length:Int)-1)/\((b1.length:Int)-1)<(b1.length:Int))/\
   ((0:Int)<=s/\s<=32)/\
   aF ((bits .and .u32 (IntKind.wrap .u32 ((at' b1 ((b1.length:Int)-1))*2^(Int.toNat s))) 2147483648) == 0)
    (rng (s+1)/\
    next1 (s+1))
    (xO a s λa1=>
    xO b1 s λb2=>
    rB 4 (a1.length:Int) (a1.length:Int)/\
    rng ((a1.length:Int)-(b1.length:Int))/\
    rng (((a1.length:Int)-(b1.length:Int))+1)/\
    ((0:Int)<=(max 0 (((a1.length:Int)-(b1.length:Int))+1))/\(max 0 (((a1.length:Int)-(b1.length:Int))+1))<=(a1.length:Int)/\(a1.length:Int)<=(a1.length:Int))/\
    (([]++(eV a1 (max 0 (((a1.length:Int)-(b1.length:Int))+1)) (a1.length:Int))).length*4<=140737488355328)/\
    rng ((a1.length:Int)-(b1.length:Int))/\
    bW (σ:=(List Int)×Int×(List Int)) (([]++(eV a1 (max 0 (((a1.length:Int)-(b1.length:Int))+1)) (a1.length:Int))),((a1.length:Int)-(b1.length:Int)),(cQ (a1.length:Int) 0)) λ⟨r,i,q⟩ next2=>
     aF (decide (0<=i))
      (((0:Int)<=i/\i<(a1.length:Int))/\
      (([(at' a1 i)]++r).length*4<=140737488355328)/\
      fD ([(at' a1 i)]++r) λr1=>
      dX r1 (b1.length:Int) λr2=>
      rng ((b1.length:Int)-1)/\
      dX r1 ((b1.length:Int)-1) λr3=>
      rng ((b1.length:Int)-1)/\
      dX b2 ((b1.length:Int)-1) λr4=>
      r4≠0/\
      sH (min (IntKind.wrap .u64 (Int.tdiv (bits .or .u64 (IntKind.wrap .u64 (r2*2^(Int.toNat 32))) r3) r4)) 4294967295) λguess=>
      jJ b2 [(IntKind.wrap .u32 guess)] λp=>
      bW (σ:=Int×(List Int)) (guess,p) λ⟨guess1,p1⟩ next3=>
       oC p1 r1 λr5=>
       aF (decide (0<r5))
        (qW p1 b2 λr6 _=>
        next3 ((IntKind.wrap .u64 (guess1-1)),r6))
        (qW r1 p1 λr8 _=>
        ((0:Int)<=i/\i<(q.length:Int))/\
        rng (i-1)/\
        next2 (r8,(i-1),(cC q i (IntKind.wrap .u32 guess1)))))
      (fD q λr10=>
      sK r s λr11=>
      Q r10 r11 0)))
def uU (a:List Int) (b:List Int) (Q:List Int->Prop):Prop:=
 fD a λa1=>
 fD b λb1=>
 bW (σ:=(List Int)×(List Int)) (a1,b1) λ⟨a2,b2⟩ next1=>
  aF (decide (0<(b2.length:Int)))
   (qX a2 b2 λ_ r1 _=>
   next1 (b2,r1))
   (Q a2)
def uV (a:List Int) (b:List Int) (Q:List Int->Prop):Prop:=
 rng ((max (a.length:Int) (b.length:Int))+1)/\
 bW (σ:=Int×Int×(List Int)) (0,0,[]) λ⟨carry,x,out⟩ next1=>
  aF (decide (x<((max (a.length:Int) (b.length:Int))+1)))
   (dX a x λr=>
   dX b x λr1=>
   sH (IntKind.wrap .u64 ((IntKind.wrap .u64 (r+r1))+carry)) λs=>
   ((out++[(IntKind.wrap .u32 s)]).length*4<=140737488355328)/\
   rng (x+1)/\
   next1 ((s / 2^(Int.toNat 32)),(x+1),(out++[(IntKind.wrap .u32 s)])))
   (fD out λr2=>
   Q r2)
end Go.Gg
namespace Go.Gg
def sT (a:List Int) (b:List Int) (Q:Bool->Prop):Prop:=
 aF ((a.length:Int) != (b.length:Int))
  (Q false)
  (bW (σ:=Int) 0 λx next1=>
   aF (decide (x<(a.length:Int)))
    (((0:Int)<=x/\x<(a.length:Int))/\
    ((0:Int)<=x/\x<(b.length:Int))/\
    aF ((at' a x) != (at' b x))
     (Q false)
     (rng (x+1)/\
     next1 (x+1)))
    (Q true))
def yG (a:GRat) (b:GRat) (Q:Bool->Prop):Prop:=
 aF (a.Neg == b.Neg)
  (sT a.Num b.Num λr=>
  aF r
   (sT a.Den b.Den λr1=>
   Q r1)
   (Q false))
  (Q false)
def rH (a:List GRat) (b:List GRat) (Q:Bool->Prop):Prop:=
 aF ((a.length:Int) != (b.length:Int))
  (Q false)
  (bW (σ:=Int) 0 λx next1=>
   aF (decide (x<(a.length:Int)))
    (((0:Int)<=x/\x<(a.length:Int))/\
    ((0:Int)<=x/\x<(b.length:Int))/\
    fX (yG (at' a x) (at' b x)) λr=>
    aF (!r)
     (Q false)
     (rng (x+1)/\
     next1 (x+1)))
    (Q true))
def oW (Q:List Int->Prop):Prop:=
 Q [1]
def mB (a:List Int) (Q:Bool->Prop):Prop:=
 aF (decide (0<(a.length:Int)))
  (rng ((a.length:Int)-1)/\
  ((0:Int)<=((a.length:Int)-1)/\((a.length:Int)-1)<(a.length:Int))/\
  Q ((at' a ((a.length:Int)-1)) != 0))
  (Q false)
def mC (a:GRat) (Q:Bool->Prop):Prop:=
 gR (α:=Bool) (λnext1=>
  aF ((a.Num.length:Int) == 0)
   (next1 ((a.Den.length:Int) == 0))
   (next1 false))
  λx=>
  aF x
   (Q (!a.Neg))
   (mB a.Num λr=>
   aF r
    (mB a.Den λr1=>
    aF r1
     (qM a.Num a.Den λr2=>
     oW λr3=>
     gH r2 r3 λr4=>
     Q (r4 == 0))
     (Q false))
    (Q false))
def gB (a:GRat) (Q:Bool->List Int->List Int->Prop):Prop:=
 gR (α:=Bool) (λnext1=>
  mC a λr1=>
  aF (!r1)
   (next1 true)
   (next1 ((a.Num.length:Int) == 0)))
  λx=>
  aF x
   (oW λr=>
   Q false [] r)
   (Q a.Neg a.Num a.Den)
def fE (neg:Bool) (num:List Int) (den:List Int) (Q:GRat->Prop):Prop:=
 tX num λr=>
 aF (r == 0)
  (Q (⟨false,[],[]⟩:GRat))
  (qM num den λg2=>
  nB num g2 λr1 _ _=>
  nB den g2 λr4 _ _=>
  Q (⟨neg,r1,r4⟩:GRat))
def gN (a:GRat) (b:GRat) (Q:GRat->Prop):Prop:=
 gB a λr r1 r2=>
 gB b λr3 r4 r5=>
 iH r1 r5 λp=>
 iH r4 r2 λq=>
 iH r2 r5 λden=>
 aF (r == r3)
  (qN p q λr6=>
  fE r r6 den λr7=>
  Q r7)
  (gH p q λr8=>
  aF (decide (0<=r8))
   (qL p q λr9 _=>
   fE r r9 den λr11=>
   Q r11)
   (qL q p λr12 _=>
   fE r3 r12 den λr14=>
   Q r14))
def tR (a:GRat) (Q:GRat->Prop):Prop:=
 gB a λr r1 r2=>
 fE (!r) r1 r2 λr3=>
 Q r3
def jS (a:GRat) (b:GRat) (Q:GRat->Prop):Prop:=
 fX (tR b) λr=>
 fX (gN a r) λr1=>
 Q r1
def rM (n:Int) (Q:List Int->Prop):Prop:=
 aF (n == (-9223372036854775808))
  (Q [0,2147483648])
  (rng (-n)/\
  sM (max n (-n)) λr=>
  Q r)
def iG (n:Int) (Q:GRat->Prop):Prop:=
 rM n λr=>
 oW λr1=>
 fE (decide (n<0)) r r1 λr2=>
 Q r2
def gM (a:GRat) (b:GRat) (Q:GRat->Prop):Prop:=
 gB a λr r1 r2=>
 gB b λr3 r4 r5=>
 iH r1 r4 λr6=>
 iH r2 r5 λr7=>
 fE (r != r3) r6 r7 λr8=>
 Q r8
def nH (a:GRat) (Q:Bool->Prop):Prop:=
 mC a λr=>
 aF r
  (aF (!a.Neg)
   (gH a.Num a.Den λr1=>
   Q (decide (r1<=0)))
   (Q false))
  (Q false)
def jI (neg:Bool) (num:List Int) (den:List Int) (Q:GRat->Int->Prop):Prop:=
 oV den λr=>
 aF (r == 0)
  (Q (⟨false,[],[]⟩:GRat) 8)
  (oV num λr1=>
  aF (r1 == 0)
   (Q (⟨false,[],[]⟩:GRat) 0)
   (uU num den λg2=>
   qX num g2 λr2 _ _=>
   qX den g2 λr5 _ _=>
   Q (⟨neg,r2,r5⟩:GRat) 0))
def sI (n:Int) (Q:List Int->Prop):Prop:=
 gR (α:=Int) (λnext1=>
  aF (decide (n<0))
   (sH (IntKind.wrap .u64 (0-(IntKind.wrap .u64 n))) λu1=>
   next1 u1)
   (next1 (IntKind.wrap .u64 n)))
  λu=>
  Q [(IntKind.wrap .u32 u),(IntKind.wrap .u32 (u / 2^(Int.toNat 32)))]
def sJ (n:Int) (d:Int) (Q:GRat->Int->Prop):Prop:=
 sI n λr=>
 sI d λr1=>
 jI ((decide (n<0)) != (decide (d<0))) r r1 λr2 r3=>
 Q r2 r3
def nQ (n:Int) (Q:GRat->Prop):Prop:=
 sJ n 1 λr _=>
 Q r
def mX (a:GRat) (Q:Bool->Prop):Prop:=
 gR (α:=Bool) (λnext1=>
  aF ((a.Num.length:Int) == 0)
   (next1 true)
   (next1 ((a.Den.length:Int) == 0)))
  λx=>
  aF x
   (aF ((a.Num.length:Int) == 0)
    (aF ((a.Den.length:Int) == 0)
     (Q (!a.Neg))
     (Q false))
    (Q false))
   (rng ((a.Num.length:Int)-1)/\
   ((0:Int)<=((a.Num.length:Int)-1)/\((a.Num.length:Int)-1)<(a.Num.length:Int))/\
   aF ((at' a.Num ((a.Num.length:Int)-1)) != 0)
    (rng ((a.Den.length:Int)-1)/\
    ((0:Int)<=((a.Den.length:Int)-1)/\((a.Den.length:Int)-1)<(a.Den.length:Int))/\
    aF ((at' a.Den ((a.Den.length:Int)-1)) != 0)
     (uU a.Num a.Den λr=>
     oV r λr1=>
     Q (r1 == 1))
     (Q false))
    (Q false))
def iF (a:GRat) (Q:Bool->List Int->List Int->Prop):Prop:=
 gR (α:=Bool) (λnext1=>
  mX a λr=>
  aF (!r)
   (next1 true)
   (next1 ((a.Num.length:Int) == 0)))
  λx=>
  aF x
   (Q false [] [1])
   (Q a.Neg a.Num a.Den)
def mA (a:GRat) (Q:Int->Prop):Prop:=
 iF a λr r1 _=>
 aF ((r1.length:Int) == 0)
  (Q 0)
  (aF r
   (Q (-1))
   (Q 1))
def oA (a:GRat) (b:GRat) (Q:GRat->Prop):Prop:=
 iF a λr r1 r2=>
 iF b λr3 r4 r5=>
 jJ r1 r5 λx=>
 jJ r4 r2 λy1=>
 jJ r2 r5 λden=>
 aF (r == r3)
  (uV x y1 λr6=>
  jI r r6 den λr7 _=>
  Q r7)
  (gR (α:=Bool×(List Int)×(List Int)) (λnext1=>
   oC x y1 λr13=>
   aF (decide (r13<0))
    (next1 (r3,y1,x))
    (next1 (r,x,y1)))
   λ⟨s,x1,y2⟩=>
   qW x1 y2 λr9 _=>
   jI s r9 den λr11 _=>
   Q r11)
def zC (a:GRat) (Q:GRat->Prop):Prop:=
 iF a λr r1 r2=>
 jI (!r) r1 r2 λr3 _=>
 Q r3
def nX (a:GRat) (b:GRat) (Q:GRat->Prop):Prop:=
 fX (zC b) λr=>
 fX (oA a r) λr1=>
 Q r1
def qV (a:GRat) (b:GRat) (Q:Int->Prop):Prop:=
 nX a b λr=>
 mA r λr1=>
 Q r1
def xM (a:GRat) (Q:Bool->Prop):Prop:=
 fX (mX a) λr=>
 aF r
  (fX (mA a) λr1=>
  aF (decide (0<=r1))
   (fX (nQ 1) λr2=>
   fX (qV a r2) λr3=>
   Q (decide (r3<=0)))
   (Q false))
  (Q false)
def nY (a:GRat) (b:GRat) (Q:GRat->Prop):Prop:=
 iF a λr r1 r2=>
 iF b λr3 r4 r5=>
 jJ r1 r4 λr6=>
 jJ r2 r5 λr7=>
 jI (r != r3) r6 r7 λr8 _=>
 Q r8
def aBj (err:Option Int) (Q:Int->Prop):Prop:=
 aF (Option.isNone err)
  (Q 0)
  (aF (Option.isSome err)
   (Q (Option.getD err 0))
   (Q (-1)))
end Go.Gg
namespace Go.Gg
def mS (kind:Int) (n:Int) (Q:Bool->Prop):Prop:=
 aF (kind == 0)
  (Q (n == 0))
  (aF (kind == 1)
   (Q (n == 1))
   (aF (decide (1<=n))
    (Q (decide (n<=16)))
    (Q false)))
def mR (f:GFormula) (i:Int) (Q:Option Int->Prop):Prop:=
 ((0:Int)<=i/\i<(f.Nodes.length:Int))/\
 gR (α:=Bool) (λnext5=>
  aF (decide ((at' f.Nodes i).Kind<0))
   (next5 true)
   (next5 (decide (5<(at' f.Nodes i).Kind))))
  λx=>
  aF x
   (Q (some 7))
   (mS ((at' f.Nodes i).Kind) (((at' f.Nodes i).Args).length:Int) λr=>
   aF (!r)
    (Q (some 11))
    (bW (σ:=Int) 0 λx1 next1=>
     aF (decide (x1<(((at' f.Nodes i).Args).length:Int)))
      (((0:Int)<=x1/\x1<(((at' f.Nodes i).Args).length:Int))/\
      gR (α:=Bool) (λnext2=>
       aF (decide ((at' ((at' f.Nodes i).Args) x1)<0))
        (next2 true)
        (rng (f.Vars+i)/\
        next2 (decide ((f.Vars+i)<=(at' ((at' f.Nodes i).Args) x1)))))
       λx2=>
       aF x2
        (Q (some 10))
        (rng (x1+1)/\
        next1 (x1+1)))
      (aF ((at' f.Nodes i).Kind == 0)
       (gR (α:=Bool) (λnext3=>
        aF ((at' f.Nodes i).K != 0)
         (next3 ((at' f.Nodes i).K != 1))
         (next3 false))
        λx3=>
        aF x3
         (Q (some 3))
         (Q none))
       (aF ((at' f.Nodes i).Kind == 4)
        (gR (α:=Bool) (λnext4=>
         aF (decide ((at' f.Nodes i).K<1))
          (next4 true)
          (next4 (decide ((((at' f.Nodes i).Args).length:Int)<(at' f.Nodes i).K))))
         λx4=>
         aF x4
          (Q (some 3))
          (Q none))
        (aF ((at' f.Nodes i).K != 0)
         (Q (some 2))
         (Q none))))))
def rV (f:GFormula) (arg:Int) (Q:Bool->Prop):Prop:=
 aF (decide (0<=f.Vars))
  (aF (decide (0<=arg))
   (aF (decide (arg<f.Vars))
    (Q true)
    (rng (arg-f.Vars)/\
    Q (decide ((arg-f.Vars)<(f.Nodes.length:Int)))))
   (Q false))
  (Q false)
def fS (f:GFormula) (Q:Option Int->Prop):Prop:=
 gR (α:=Bool) (λnext2=>
  aF (decide (f.Vars<0))
   (next2 true)
   (next2 (decide (24<f.Vars))))
  λx=>
  aF x
   (Q (some 3))
   (aF (decide (128<(f.Nodes.length:Int)))
    (Q (some 4))
    (bW (σ:=Int) 0 λx1 next1=>
     aF (decide (x1<(f.Nodes.length:Int)))
      (mR f x1 λe=>
      aF (Option.isSome e)
       (Q e)
       (rng (x1+1)/\
       next1 (x1+1)))
      (rV f f.Top λr=>
      aF (!r)
       (Q (some 10))
       (Q none))))
def xL (f:GFormula) (i:Int) (Q:Int->Prop):Prop:=
 ((0:Int)<=i/\i<(f.Nodes.length:Int))/\
 gR (α:=Int×Int) (λnext2=>
  aF ((at' f.Nodes i).Kind == 0)
   (next2 (0,0))
   (aF ((at' f.Nodes i).Kind == 1)
    (next2 (1,1))
    (aF ((at' f.Nodes i).Kind == 2)
     (next2 (1,16))
     (aF ((at' f.Nodes i).Kind == 3)
      (next2 (1,16))
      (aF ((at' f.Nodes i).Kind == 4)
       (next2 (1,16))
       (aF ((at' f.Nodes i).Kind == 5)
        (next2 (1,16))
        (Q 7)))))))
  λ⟨least,most⟩=>
  aF (decide ((((at' f.Nodes i).Args).length:Int)<least))
   (Q 11)
   (aF (decide (most<(((at' f.Nodes i).Args).length:Int)))
    (Q 11)
    (bW (σ:=Int) 0 λx next1=>
     aF (decide (x<(((at' f.Nodes i).Args).length:Int)))
      (((0:Int)<=x/\x<(((at' f.Nodes i).Args).length:Int))/\
      aF (decide ((at' ((at' f.Nodes i).Args) x)<0))
       (Q 10)
       (rng (f.Vars+i)/\
       aF (decide ((f.Vars+i)<=(at' ((at' f.Nodes i).Args) x)))
        (Q 10)
        (rng (x+1)/\
        next1 (x+1))))
      (aF ((at' f.Nodes i).Kind == 0)
       (aF ((at' f.Nodes i).K != 0)
        (aF ((at' f.Nodes i).K != 1)
         (Q 3)
         (Q 0))
        (Q 0))
       (aF ((at' f.Nodes i).Kind == 4)
        (aF (decide ((at' f.Nodes i).K<1))
         (Q 3)
         (aF (decide ((((at' f.Nodes i).Args).length:Int)<(at' f.Nodes i).K))
          (Q 3)
          (Q 0)))
        (aF ((at' f.Nodes i).K != 0)
         (Q 2)
         (Q 0))))))
def vO (f:GFormula) (arg:Int) (Q:Bool->Prop):Prop:=
 aF (decide (0<=f.Vars))
  (aF (decide (0<=arg))
   (aF (decide (arg<f.Vars))
    (Q true)
    (rng (arg-f.Vars)/\
    Q (decide ((arg-f.Vars)<(f.Nodes.length:Int)))))
   (Q false))
  (Q false)
def vQ (f:GFormula) (Q:Int->Prop):Prop:=
 aF (decide (f.Vars<0))
  (Q 3)
  (aF (decide (24<f.Vars))
   (Q 3)
   (aF (decide (128<(f.Nodes.length:Int)))
    (Q 4)
    (bW (σ:=Int) 0 λx next1=>
     aF (decide (x<(f.Nodes.length:Int)))
      (xL f x λe=>
      aF (e != 0)
       (Q e)
       (rng (x+1)/\
       next1 (x+1)))
      (vO f f.Top λr=>
      aF (!r)
       (Q 10)
       (Q 0)))))
def rT (f:GFormula) (failed:Int) (Q:Option Int->Prop):Prop:=
 fS f λe=>
 aF (Option.isSome e)
  (Q e)
  (gR (α:=Bool) (λnext1=>
   aF (decide (failed<0))
    (next1 true)
    ((((0:Int)<=f.Vars/\f.Vars<=64)/\rng (1*2^(Int.toNat f.Vars)))/\
    next1 (decide ((1*2^(Int.toNat f.Vars))<=failed))))
   λx=>
   aF x
    (Q (some 3))
    (Q none))
def qD (f:GFormula) (failed:Int) (Q:List Bool->Prop):Prop:=
 rng (f.Vars+(f.Nodes.length:Int))/\
 rB 1 f.Vars (f.Vars+(f.Nodes.length:Int))/\
 bW (σ:=Int×(List Bool)) (0,(cQ f.Vars false)) λ⟨x,v⟩ next1=>
  aF (decide (x<((Int.toNat f.Vars):Int)))
   (((0:Int)<=x/\x<=64)/\
   ((0:Int)<=x/\x<(v.length:Int))/\
   rng (x+1)/\
   next1 ((x+1),(cC v x ((bits .and .i64 (failed / 2^(Int.toNat x)) 1) == 1))))
   (bW (σ:=Int×(List Bool)) (0,v) λ⟨x1,v1⟩ next2=>
    aF (decide (x1<(f.Nodes.length:Int)))
     (((0:Int)<=x1/\x1<(f.Nodes.length:Int))/\
     bW (σ:=Int×Int) (0,0) λ⟨n,x2⟩ next3=>
      aF (decide (x2<(((at' f.Nodes x1).Args).length:Int)))
       (((0:Int)<=x2/\x2<(((at' f.Nodes x1).Args).length:Int))/\
       ((0:Int)<=(at' ((at' f.Nodes x1).Args) x2)/\(at' ((at' f.Nodes x1).Args) x2)<(v1.length:Int))/\
       aF (at' v1 (at' ((at' f.Nodes x1).Args) x2))
        (rng (n+1)/\
        rng (x2+1)/\
        next3 ((n+1),(x2+1)))
        (rng (x2+1)/\
        next3 (n,(x2+1))))
       (gR (α:=Bool) (λnext4=>
        aF ((at' f.Nodes x1).Kind == 0)
         (next4 ((at' f.Nodes x1).K == 1))
         (aF ((at' f.Nodes x1).Kind == 1)
          (next4 (n == 0))
          (aF ((at' f.Nodes x1).Kind == 2)
           (next4 (n == (((at' f.Nodes x1).Args).length:Int)))
           (aF ((at' f.Nodes x1).Kind == 3)
            (next4 (decide (0<n)))
            (aF ((at' f.Nodes x1).Kind == 4)
             (next4 (decide ((at' f.Nodes x1).K<=n)))
             (aF ((at' f.Nodes x1).Kind == 5)
              (next4 ((Int.tmod n 2) == 1))
              (next4 false)))))))
        λis=>
        ((v1++[is]).length*1<=140737488355328)/\
        rng (x1+1)/\
        next2 ((x1+1),(v1++[is]))))
     (Q v1))
def rU (f:GFormula) (failed:Int) (Q:Bool->Option Int->Prop):Prop:=
 rT f failed λe=>
 aF (Option.isSome e)
  (Q false e)
  (fX (qD f failed) λr=>
  ((0:Int)<=f.Top/\f.Top<(r.length:Int))/\
  Q (at' r f.Top) none)
def nM (f:GFormula) (Q:List Bool->Prop):Prop:=
 rng (f.Vars+(f.Nodes.length:Int))/\
 rB 1 (f.Vars+(f.Nodes.length:Int)) (f.Vars+(f.Nodes.length:Int))/\
 ((0:Int)<=f.Top/\f.Top<((Int.toNat (f.Vars+(f.Nodes.length:Int))):Int))/\
 rng ((f.Nodes.length:Int)-1)/\
 bW (σ:=Int×(List Bool)) (((f.Nodes.length:Int)-1),(cC (cQ (f.Vars+(f.Nodes.length:Int)) false) f.Top true)) λ⟨i,mark⟩ next1=>
  aF (decide (0<=i))
   (rng (f.Vars+i)/\
   ((0:Int)<=(f.Vars+i)/\(f.Vars+i)<(mark.length:Int))/\
   aF (at' mark (f.Vars+i))
    (((0:Int)<=i/\i<(f.Nodes.length:Int))/\
    bW (σ:=Int×(List Bool)) (0,mark) λ⟨x,mark1⟩ next2=>
     aF (decide (x<(((at' f.Nodes i).Args).length:Int)))
      (((0:Int)<=x/\x<(((at' f.Nodes i).Args).length:Int))/\
      ((0:Int)<=(at' ((at' f.Nodes i).Args) x)/\(at' ((at' f.Nodes i).Args) x)<(mark1.length:Int))/\
      rng (x+1)/\
      next2 ((x+1),(cC mark1 (at' ((at' f.Nodes i).Args) x) true)))
      (rng (i-1)/\
      next1 ((i-1),mark1)))
    (rng (i-1)/\
    next1 ((i-1),mark)))
   (Q mark)
def tZ (f:GFormula) (Q:GFormula->Option Int->Prop):Prop:=
 fS f λe=>
 aF (Option.isSome e)
  (Q (⟨0,[],0⟩:GFormula) e)
  (rng (f.Vars+(f.Nodes.length:Int))/\
  rB 8 (f.Vars+(f.Nodes.length:Int)) (f.Vars+(f.Nodes.length:Int))/\
  bW (σ:=Int×(List Int)) (0,(cQ (f.Vars+(f.Nodes.length:Int)) 0)) λ⟨x,to⟩ next1=>
   aF (decide (x<f.Vars))
    (((0:Int)<=x/\x<(to.length:Int))/\
    rng (x+1)/\
    next1 ((x+1),(cC to x x)))
    (fX (nM f) λr=>
    ((0:Int)<=f.Vars/\f.Vars<=(r.length:Int)/\(r.length:Int)<=(r.length:Int))/\
    bW (σ:=Int×(List Int)×(List GNode)) (0,to,[]) λ⟨x1,to1,x2⟩ next2=>
     aF (decide (x1<((eV r f.Vars (r.length:Int)).length:Int)))
      (((0:Int)<=x1/\x1<((eV r f.Vars (r.length:Int)).length:Int))/\
      aF (!(at' (eV r f.Vars (r.length:Int)) x1))
       (rng (x1+1)/\
       next2 ((x1+1),to1,x2))
       (((0:Int)<=x1/\x1<(f.Nodes.length:Int))/\
       bW (σ:=Int×(List Int)) (0,[]) λ⟨x3,x4⟩ next3=>
        aF (decide (x3<(((at' f.Nodes x1).Args).length:Int)))
         (((0:Int)<=x3/\x3<(((at' f.Nodes x1).Args).length:Int))/\
         ((0:Int)<=(at' ((at' f.Nodes x1).Args) x3)/\(at' ((at' f.Nodes x1).Args) x3)<(to1.length:Int))/\
         ((x4++[(at' to1 (at' ((at' f.Nodes x1).Args) x3))]).length*8<=140737488355328)/\
         rng (x3+1)/\
         next3 ((x3+1),(x4++[(at' to1 (at' ((at' f.Nodes x1).Args) x3))])))
         (rng (f.Vars+x1)/\
         rng (f.Vars+(x2.length:Int))/\
         ((0:Int)<=(f.Vars+x1)/\(f.Vars+x1)<(to1.length:Int))/\
         ((x2++[(⟨(at' f.Nodes x1).Kind,(at' f.Nodes x1).K,x4⟩:GNode)]).length*40<=140737488355328)/\
         rng (x1+1)/\
         next2 ((x1+1),(cC to1 (f.Vars+x1) (f.Vars+(x2.length:Int))),(x2++[(⟨(at' f.Nodes x1).Kind,(at' f.Nodes x1).K,x4⟩:GNode)])))))
      (((0:Int)<=f.Top/\f.Top<(to1.length:Int))/\
      Q (⟨f.Vars,x2,(at' to1 f.Top)⟩:GFormula) none)))
def uA (f:GFormula) (Q:Int->Int->Option Int->Prop):Prop:=
 fS f λe=>
 aF (Option.isSome e)
  (Q 0 0 e)
  (fX (nM f) λr=>
  ((0:Int)<=f.Vars/\f.Vars<=(r.length:Int)/\(r.length:Int)<=(r.length:Int))/\
  bW (σ:=Int×Int×Int) (0,0,0) λ⟨nodes,args,x⟩ next1=>
   aF (decide (x<((eV r f.Vars (r.length:Int)).length:Int)))
    (((0:Int)<=x/\x<((eV r f.Vars (r.length:Int)).length:Int))/\
    aF (at' (eV r f.Vars (r.length:Int)) x)
     (rng (nodes+1)/\
     ((0:Int)<=x/\x<(f.Nodes.length:Int))/\
     rng (args+(((at' f.Nodes x).Args).length:Int))/\
     sH (args+(((at' f.Nodes x).Args).length:Int)) λargs1=>
     rng (x+1)/\
     next1 ((nodes+1),args1,(x+1)))
     (rng (x+1)/\
     next1 (nodes,args,(x+1))))
    (Q nodes args none))
def aA5 (f:GFormula) (values:List Bool) (failed:Int) (arg:Int) (Q:Bool->Prop):Prop:=
 aF (decide (arg<f.Vars))
  (((0:Int)<=arg/\arg<=64)/\
  Q ((bits .and .i64 (failed / 2^(Int.toNat arg)) 1) == 1))
  (rng (arg-f.Vars)/\
  ((0:Int)<=(arg-f.Vars)/\(arg-f.Vars)<(values.length:Int))/\
  Q (at' values (arg-f.Vars)))
def tM (f:GFormula) (values:List Bool) (valueso:Nat) (valuesl:Nat) (failed:Int) (arg:Int) (Q:List Bool->Bool->Prop):Prop:=
 aF (decide (arg<f.Vars))
  (((0:Int)<=arg/\arg<=64)/\
  Q values ((bits .and .i64 (failed / 2^(Int.toNat arg)) 1) == 1))
  (rng (arg-f.Vars)/\
  ((0:Int)<=(arg-f.Vars)/\(arg-f.Vars)<(valuesl:Int))/\
  (Int.toNat ((valueso:Int)+(arg-f.Vars)))<values.length/\
  Q values (at' values ((valueso:Int)+(arg-f.Vars))))
def tL (f:GFormula) (failed:Int) (Q:List Bool->Prop):Prop:=
 rB 1 (f.Nodes.length:Int) (f.Nodes.length:Int)/\
 bW (σ:=Int×(List Bool)) (0,(cQ (f.Nodes.length:Int) false)) λ⟨x,values⟩ next1=>
  aF (decide (x<(f.Nodes.length:Int)))
   (((0:Int)<=x/\x<(f.Nodes.length:Int))/\
   bW (σ:=Int×Int×(List Bool)) (0,0,values) λ⟨n,x1,values1⟩ next2=>
    aF (decide (x1<(((at' f.Nodes x).Args).length:Int)))
     (((0:Int)<=x1/\x1<(((at' f.Nodes x).Args).length:Int))/\
     tM f values1 0 values1.length failed (at' ((at' f.Nodes x).Args) x1) λvalues2 r=>
     values2.length=values1.length/\
     aF r
      (rng (n+1)/\
      rng (x1+1)/\
      next2 ((n+1),(x1+1),values2))
      (rng (x1+1)/\
      next2 (n,(x1+1),values2)))
     (aF ((at' f.Nodes x).Kind == 0)
      (((0:Int)<=x/\x<(values1.length:Int))/\
      rng (x+1)/\
      next1 ((x+1),(cC values1 x ((at' f.Nodes x).K == 1))))
      (aF ((at' f.Nodes x).Kind == 1)
       (((0:Int)<=x/\x<(values1.length:Int))/\
       rng (x+1)/\
       next1 ((x+1),(cC values1 x (n == 0))))
       (aF ((at' f.Nodes x).Kind == 2)
        (((0:Int)<=x/\x<(values1.length:Int))/\
        rng (x+1)/\
        next1 ((x+1),(cC values1 x (n == (((at' f.Nodes x).Args).length:Int)))))
        (aF ((at' f.Nodes x).Kind == 3)
         (((0:Int)<=x/\x<(values1.length:Int))/\
         rng (x+1)/\
         next1 ((x+1),(cC values1 x (decide (0<n)))))
         (aF ((at' f.Nodes x).Kind == 4)
          (((0:Int)<=x/\x<(values1.length:Int))/\
          rng (x+1)/\
          next1 ((x+1),(cC values1 x (decide ((at' f.Nodes x).K<=n)))))
          (((0:Int)<=x/\x<(values1.length:Int))/\
          rng (x+1)/\
          next1 ((x+1),(cC values1 x ((Int.tmod n 2) == 1))))))))))
   (Q values)
def vN (f:GFormula) (failed:Int) (Q:Bool->Prop):Prop:=
 fX (tL f failed) λr=>
 fX (aA5 f r failed f.Top) λr1=>
 Q r1
end Go.Gg
namespace Go.Gg
def eR:Nat->Int->Int->(List GNode)->Int->(List Int)->(List Bool)->(List Int->List Bool->Prop)->Prop
 | 0,_,_,_,_,_,_,_=>False
 | fu+1,arg,Formula,w,w1,events,seen,Q=>
  ((0:Int)<=arg/\arg<(seen.length:Int))/\
  aF (at' seen arg)
   (Q events seen)
   (((0:Int)<=arg/\arg<(seen.length:Int))/\
   aF (decide (arg<Formula))
    (((events++[arg]).length*8<=140737488355328)/\
    Q (events++[arg]) (cC seen arg true))
    (rng (arg-Formula)/\
    ((0:Int)<=(arg-Formula)/\(arg-Formula)<(w.length:Int))/\
    bW (σ:=Int×(List Int)×(List Bool)) (0,events,(cC seen arg true)) λ⟨x,x1,x2⟩ next1=>
     aF (decide (x<(((at' w (arg-Formula)).Args).length:Int)))
      (((0:Int)<=x/\x<(((at' w (arg-Formula)).Args).length:Int))/\
      eR fu (at' ((at' w (arg-Formula)).Args) x) Formula w w1 x1 x2 λu u1=>
      u1.length=x2.length/\
      rng (x+1)/\
      next1 ((x+1),u,u1))
      (Q x1 x2)))
def vV (f:GFormula) (Q:List Int->List Bool->Prop):Prop:=
 rng (f.Vars+(f.Nodes.length:Int))/\
 rB 1 (f.Vars+(f.Nodes.length:Int)) (f.Vars+(f.Nodes.length:Int))/\
 ∃fu,eR fu f.Top f.Vars f.Nodes f.Top ([]:List Int) (cQ (f.Vars+(f.Nodes.length:Int)) false) λu u1=>
 u1.length=(cQ (f.Vars+(f.Nodes.length:Int)) false).length/\
 bW (σ:=Int×(List Int)) (0,u) λ⟨x,x1⟩ next1=>
  aF (decide (x<f.Vars))
   (((0:Int)<=x/\x<(u1.length:Int))/\
   aF (!(at' u1 x))
    (((x1++[x]).length*8<=140737488355328)/\
    rng (x+1)/\
    next1 ((x+1),(x1++[x])))
    (rng (x+1)/\
    next1 ((x+1),x1)))
   (Q x1 u1)
def vW (f:GFormula) (Q:List Int->Option Int->Prop):Prop:=
 fS f λerr=>
 aF (Option.isSome err)
  (Q [] err)
  (vV f λr _=>
  Q r none)
def vX (o:List Int) (vars:Int) (Q:Option Int->Prop):Prop:=
 gR (α:=Bool) (λnext3=>
  aF (decide (vars<0))
   (next3 true)
   (next3 (decide (24<vars))))
  λx=>
  aF x
   (Q (some 3))
   (aF ((o.length:Int) != vars)
    (Q (some 11))
    (rB 1 vars vars/\
    bW (σ:=Int×(List Bool)) (0,(cQ vars false)) λ⟨x1,seen⟩ next1=>
     aF (decide (x1<(o.length:Int)))
      (((0:Int)<=x1/\x1<(o.length:Int))/\
      gR (α:=Bool) (λnext2=>
       aF (decide ((at' o x1)<0))
        (next2 true)
        (next2 (decide (vars<=(at' o x1)))))
       λx2=>
       aF x2
        (Q (some 3))
        (((0:Int)<=(at' o x1)/\(at' o x1)<(seen.length:Int))/\
        aF (at' seen (at' o x1))
         (Q (some 6))
         (((0:Int)<=(at' o x1)/\(at' o x1)<(seen.length:Int))/\
         rng (x1+1)/\
         next1 ((x1+1),(cC seen (at' o x1) true)))))
      (Q none)))
end Go.Gg
namespace Go.Gg
def pJ (order:List Int) (Q:List Int->List Int->GMap Int->GMap Int->Prop):Prop:=
 (order.length*8<=140737488355328)/\
 rB 8 (order.length:Int) (order.length:Int)/\
 bW (σ:=Int×(List Int)) (0,(cQ (order.length:Int) 0)) λ⟨x,x1⟩ next1=>
  aF (decide (x<(order.length:Int)))
   (((0:Int)<=x/\x<(order.length:Int))/\
   ((0:Int)<=(at' order x)/\(at' order x)<(x1.length:Int))/\
   rng (x+1)/\
   next1 ((x+1),(cC x1 (at' order x) x)))
   (Q order x1 (oG:GMap Int) (oG:GMap Int))
def eW (v:Int) (lo:Int) (hi:Int) (_order:List Int) (_place:List Int) (nodes:List GDNode) (unique:GMap Int) (_memo:GMap Int) (Q:List GDNode->GMap Int->Int->Prop):Prop:=
 aF (lo == hi)
  (Q nodes unique lo)
  (aF (!(Option.isSome (eP unique [v,lo,hi])))
   (rng (2+(nodes.length:Int))/\
   ((nodes++[(⟨v,lo,hi⟩:GDNode)]).length*24<=140737488355328)/\
   Q (nodes++[(⟨v,lo,hi⟩:GDNode)]) (mput unique [v,lo,hi] (2+(nodes.length:Int))) (2+(nodes.length:Int)))
   (Q nodes unique (Option.getD (eP unique [v,lo,hi]) 0)))
def fK (i:Int) (order:List Int) (place:List Int) (nodes:List GDNode) (unique:GMap Int) (memo:GMap Int) (Q:List GDNode->GMap Int->Int->Prop):Prop:=
 eW i 0 1 order place nodes unique memo λu u1 r=>
 Q u u1 r
def cI (r:Int) (order:List Int) (place:List Int) (nodes:List GDNode) (_unique:GMap Int) (_memo:GMap Int) (Q:Int->Prop):Prop:=
 aF (decide (r<2))
  (Q (order.length:Int))
  (rng (r-2)/\
  ((0:Int)<=(r-2)/\(r-2)<(nodes.length:Int))/\
  ((0:Int)<=(at' nodes (r-2)).Var/\(at' nodes (r-2)).Var<(place.length:Int))/\
  Q (at' place ((at' nodes (r-2)).Var)))
def cR (r:Int) (level:Int) (order:List Int) (place:List Int) (nodes:List GDNode) (unique:GMap Int) (memo:GMap Int) (Q:Int->Int->Prop):Prop:=
 cI r order place nodes unique memo λr1=>
 aF (r1 != level)
  (Q r r)
  (rng (r-2)/\
  ((0:Int)<=(r-2)/\(r-2)<(nodes.length:Int))/\
  Q ((at' nodes (r-2)).Lo) ((at' nodes (r-2)).Hi))
def aQ:Nat->Int->Int->Int->(List Int)->(List Int)->(List GDNode)->(GMap Int)->(GMap Int)->(List GDNode->GMap Int->GMap Int->Int->Prop)->Prop
 | 0,_,_,_,_,_,_,_,_,_=>False
 | fu+1,c,a,b,order,place,nodes,unique,memo,Q=>
  gR (α:=Unit) (λnext1=>
   gR (α:=Bool) (λnext2=>
    aF (c == 1)
     (next2 true)
     (next2 (a == b)))
    λx=>
    aF x
     (Q nodes unique memo a)
     (aF (c == 0)
      (Q nodes unique memo b)
      (aF (a == 1)
       (aF (b == 0)
        (Q nodes unique memo c)
        (next1 ()))
       (next1 ()))))
   λ_=>
   aF (Option.isSome (eP memo [c,a,b]))
    (Q nodes unique memo (Option.getD (eP memo [c,a,b]) 0))
    (cI c order place nodes unique memo λr=>
    cI a order place nodes unique memo λr1=>
    cI b order place nodes unique memo λr2=>
    cR c (min (min r r1) r2) order place nodes unique memo λr3 r4=>
    cR a (min (min r r1) r2) order place nodes unique memo λr5 r6=>
    cR b (min (min r r1) r2) order place nodes unique memo λr7 r8=>
    aQ fu r3 r5 r7 order place nodes unique memo λu u1 u2 lo=>
    aQ fu r4 r6 r8 order place u u1 u2 λu3 u4 u5 hi=>
    ((0:Int)<=(min (min r r1) r2)/\(min (min r r1) r2)<(order.length:Int))/\
    eW (at' order (min (min r r1) r2)) lo hi order place u3 u4 u5 λu6 u7 r9=>
    Q u6 u7 (mput u5 [c,a,b] r9) r9)
def gJ (a:Int) (order:List Int) (place:List Int) (nodes:List GDNode) (unique:GMap Int) (memo:GMap Int) (Q:List GDNode->GMap Int->GMap Int->Int->Prop):Prop:=
 ∃fu,aQ fu a 0 1 order place nodes unique memo λu u1 u2 r=>
 Q u u1 u2 r
def gK (a:Int) (b:Int) (order:List Int) (place:List Int) (nodes:List GDNode) (unique:GMap Int) (memo:GMap Int) (Q:List GDNode->GMap Int->GMap Int->Int->Prop):Prop:=
 ∃fu,aQ fu a b 0 order place nodes unique memo λu u1 u2 r=>
 Q u u1 u2 r
def gW (a:Int) (b:Int) (order:List Int) (place:List Int) (nodes:List GDNode) (unique:GMap Int) (memo:GMap Int) (Q:List GDNode->GMap Int->GMap Int->Int->Prop):Prop:=
 ∃fu,aQ fu a 1 b order place nodes unique memo λu u1 u2 r=>
 Q u u1 u2 r
def gI (a:Int) (b:Int) (order:List Int) (place:List Int) (nodes:List GDNode) (unique:GMap Int) (memo:GMap Int) (Q:List GDNode->GMap Int->GMap Int->Int->Prop):Prop:=
 gJ b order place nodes unique memo λu u1 u2 r=>
 ∃fu,aQ fu a r b order place u u1 u2 λu3 u4 u5 r1=>
 Q u3 u4 u5 r1
def aY:Nat->Int->Int->(GMap Bool)->(List Int)->(List Int)->(List GDNode)->(GMap Int)->(GMap Int)->(GMap Bool->Prop)->Prop
 | 0,_,_,_,_,_,_,_,_,_=>False
 | fu+1,r,u,u1,order,place,nodes,unique,memo,Q=>
  aF (decide (r<2))
   (Q u1)
   (aF (Option.getD (eP u1 [r]) false)
    (Q u1)
    (aF (decide (u<((GMap.n u1:Nat):Int)))
     (Q u1)
     (rng (r-2)/\
     ((0:Int)<=(r-2)/\(r-2)<(nodes.length:Int))/\
     ∃u2,(aY fu ((at' nodes (r-2)).Lo) u (mput u1 [r] true) order place nodes unique memo λy1=>y1=u2)/\
     rng (r-2)/\
     ((0:Int)<=(r-2)/\(r-2)<(nodes.length:Int))/\
     ∃u3,(aY fu ((at' nodes (r-2)).Hi) u u2 order place nodes unique memo λy2=>y2=u3)/\
     Q u3)))
def eB (root:Int) (most:Int) (order:List Int) (place:List Int) (nodes:List GDNode) (unique:GMap Int) (memo:GMap Int) (Q:Bool->Prop):Prop:=
 ∃fu,aY fu root most (oG:GMap Bool) order place nodes unique memo λu=>
 Q (decide (((GMap.n u:Nat):Int)<=most))
def cA:Nat->Int->Int->(GMap Int)->(List Int)->(List GDNode)->(List Int)->(List Int)->(List GDNode)->(GMap Int)->(GMap Int)->(GMap Int->List GDNode->Int->Prop)->Prop
 | 0,_,_,_,_,_,_,_,_,_,_,_=>False
 | fu+1,r,Root,u,Order,Nodes,order,place,nodes,unique,memo,Q=>
  aF (Option.isSome (eP u [r]))
   (Q u Nodes (Option.getD (eP u [r]) 0))
   (rng (r-2)/\
   ((0:Int)<=(r-2)/\(r-2)<(nodes.length:Int))/\
   cA fu ((at' nodes (r-2)).Lo) Root u Order Nodes order place nodes unique memo λu1 u2 lo=>
   cA fu ((at' nodes (r-2)).Hi) Root u1 Order u2 order place nodes unique memo λu3 u4 hi1=>
   ((u4++[(⟨(at' nodes (r-2)).Var,lo,hi1⟩:GDNode)]).length*24<=140737488355328)/\
   rng (1+((u4++[(⟨(at' nodes (r-2)).Var,lo,hi1⟩:GDNode)]).length:Int))/\
   Q (mput u3 [r] (1+((u4++[(⟨(at' nodes (r-2)).Var,lo,hi1⟩:GDNode)]).length:Int))) (u4++[(⟨(at' nodes (r-2)).Var,lo,hi1⟩:GDNode)]) (Option.getD (eP (mput u3 [r] (1+((u4++[(⟨(at' nodes (r-2)).Var,lo,hi1⟩:GDNode)]).length:Int))) [r]) 0))
def fJ (root:Int) (order:List Int) (place:List Int) (nodes:List GDNode) (unique:GMap Int) (memo:GMap Int) (Q:GDiagram->Prop):Prop:=
 (order.length*8<=140737488355328)/\
 ∃fu,cA fu root 0 (mput (mput (oG:GMap Int) [0] 0) [1] 1) order ([]:List GDNode) order place nodes unique memo λ_ u1 r=>
 Q (⟨order,u1,r⟩:GDiagram)
end Go.Gg
namespace Go.Gg
def vE (refs:List Int) (first:Int) (order:List Int) (place:List Int) (nodes:List GDNode) (unique:GMap Int) (memo:GMap Int) (Q:List GDNode->GMap Int->GMap Int->Int->Prop):Prop:=
 bW (σ:=Int×Int×(List GDNode)×(GMap Int)×(GMap Int)) (first,0,nodes,unique,memo) λ⟨first1,x,x1,x2,x3⟩ next1=>
  aF (decide (x<(refs.length:Int)))
   (((0:Int)<=x/\x<(refs.length:Int))/\
   gK first1 (at' refs x) order place x1 x2 x3 λu u1 u2 first2=>
   rng (x+1)/\
   next1 (first2,(x+1),u,u1,u2))
   (Q x1 x2 x3 first1)
def uD (refs:List Int) (first:Int) (order:List Int) (place:List Int) (nodes:List GDNode) (unique:GMap Int) (memo:GMap Int) (Q:List GDNode->GMap Int->GMap Int->Int->Prop):Prop:=
 bW (σ:=Int×Int×(List GDNode)×(GMap Int)×(GMap Int)) (first,0,nodes,unique,memo) λ⟨first1,x,x1,x2,x3⟩ next1=>
  aF (decide (x<(refs.length:Int)))
   (((0:Int)<=x/\x<(refs.length:Int))/\
   gW first1 (at' refs x) order place x1 x2 x3 λu u1 u2 first2=>
   rng (x+1)/\
   next1 (first2,(x+1),u,u1,u2))
   (Q x1 x2 x3 first1)
def uC (refs:List Int) (first:Int) (order:List Int) (place:List Int) (nodes:List GDNode) (unique:GMap Int) (memo:GMap Int) (Q:List GDNode->GMap Int->GMap Int->Int->Prop):Prop:=
 bW (σ:=Int×Int×(List GDNode)×(GMap Int)×(GMap Int)) (first,0,nodes,unique,memo) λ⟨first1,x,x1,x2,x3⟩ next1=>
  aF (decide (x<(refs.length:Int)))
   (((0:Int)<=x/\x<(refs.length:Int))/\
   gI first1 (at' refs x) order place x1 x2 x3 λu u1 u2 first2=>
   rng (x+1)/\
   next1 (first2,(x+1),u,u1,u2))
   (Q x1 x2 x3 first1)
def pG (refs:List Int) (k6:Int) (order:List Int) (place:List Int) (nodes:List GDNode) (unique:GMap Int) (memo:GMap Int) (Q:List GDNode->GMap Int->GMap Int->Int->Prop):Prop:=
 rng (k6+1)/\
 rB 8 (k6+1) (k6+1)/\
 ((0:Int)<=0/\0<((Int.toNat (k6+1)):Int))/\
 bW (σ:=Int×(List Int)×(List GDNode)×(GMap Int)×(GMap Int)) (0,(cC (cQ (k6+1) 0) 0 1),nodes,unique,memo) λ⟨x,need,x1,x2,x3⟩ next1=>
  aF (decide (x<(refs.length:Int)))
   (((0:Int)<=x/\x<(refs.length:Int))/\
   bW (σ:=Int×(List Int)×(List GDNode)×(GMap Int)×(GMap Int)) (k6,need,x1,x2,x3) λ⟨j,need1,x4,x5,x6⟩ next2=>
    aF (decide (0<j))
     (rng (j-1)/\
     ((0:Int)<=(j-1)/\(j-1)<(need1.length:Int))/\
     ((0:Int)<=j/\j<(need1.length:Int))/\
     ∃u u1 u2 r,(∃fu,aQ fu (at' refs x) (at' need1 (j-1)) (at' need1 j) order place x4 x5 x6 λy1 y2 y3 y4=>y1=u/\y2=u1/\y3=u2/\y4=r)/\
     ((0:Int)<=j/\j<(need1.length:Int))/\
     rng (j-1)/\
     next2 ((j-1),(cC need1 j r),u,u1,u2))
     (rng (x+1)/\
     next1 ((x+1),need1,x4,x5,x6)))
   (((0:Int)<=k6/\k6<(need.length:Int))/\
   Q x1 x2 x3 (at' need k6))
def lF (x:GNode) (refs:List Int) (order:List Int) (place:List Int) (nodes:List GDNode) (unique:GMap Int) (memo:GMap Int) (Q:List GDNode->GMap Int->GMap Int->Int->Prop):Prop:=
 aF (x.Kind == 0)
  (Q nodes unique memo x.K)
  (aF (x.Kind == 1)
   (((0:Int)<=0/\0<(refs.length:Int))/\
   gJ (at' refs 0) order place nodes unique memo λu u1 u2 r=>
   Q u u1 u2 r)
   (aF (x.Kind == 2)
    (vE refs 1 order place nodes unique memo λu3 u4 u5 r1=>
    Q u3 u4 u5 r1)
    (aF (x.Kind == 3)
     (uD refs 0 order place nodes unique memo λu6 u7 u8 r2=>
     Q u6 u7 u8 r2)
     (aF (x.Kind == 5)
      (uC refs 0 order place nodes unique memo λu9 u10 u11 r3=>
      Q u9 u10 u11 r3)
      (pG refs x.K order place nodes unique memo λu12 u13 u14 r4=>
      Q u12 u13 u14 r4)))))
def nN (f:GFormula) (o:List Int) (Q:GDiagram->Option Int->Prop):Prop:=
 uA f λr _ r2=>
 aF (Option.isSome r2)
  (Q (⟨[],[],0⟩:GDiagram) r2)
  (vX o f.Vars λerr=>
  aF (Option.isSome err)
   (Q (⟨[],[],0⟩:GDiagram) err)
   (gR (α:=GFormula) (λnext4=>
    aF (decide (0<r))
     (tZ f λr7 r8=>
     aF (Option.isSome r8)
      (Q (⟨[],[],0⟩:GDiagram) r8)
      (next4 r7))
     (next4 (⟨f.Vars,[],f.Top⟩:GFormula)))
    λx=>
    pJ o λorder place unique memo=>
    rng (x.Vars+(x.Nodes.length:Int))/\
    rB 8 (x.Vars+(x.Nodes.length:Int)) (x.Vars+(x.Nodes.length:Int))/\
    bW (σ:=Int×(List Int)×(GMap Int)×(List GDNode)) (0,(cQ (x.Vars+(x.Nodes.length:Int)) 0),unique,[]) λ⟨x1,refs,x2,x3⟩ next1=>
     aF (decide (x1<x.Vars))
      (fK x1 order place x3 x2 memo λu u1 r3=>
      ((0:Int)<=x1/\x1<(refs.length:Int))/\
      rng (x1+1)/\
      next1 ((x1+1),(cC refs x1 r3),u1,u))
      (bW (σ:=Int×(List Int)×(GMap Int)×(GMap Int)×(List GDNode)) (0,refs,x2,memo,x3) λ⟨x4,refs1,x5,x6,x7⟩ next2=>
       aF (decide (x4<(x.Nodes.length:Int)))
        (((0:Int)<=x4/\x4<(x.Nodes.length:Int))/\
        bW (σ:=Int×(List Int)) (0,[]) λ⟨x8,args⟩ next3=>
         aF (decide (x8<(((at' x.Nodes x4).Args).length:Int)))
          (((0:Int)<=x8/\x8<(((at' x.Nodes x4).Args).length:Int))/\
          ((0:Int)<=(at' ((at' x.Nodes x4).Args) x8)/\(at' ((at' x.Nodes x4).Args) x8)<(refs1.length:Int))/\
          ((args++[(at' refs1 (at' ((at' x.Nodes x4).Args) x8))]).length*8<=140737488355328)/\
          rng (x8+1)/\
          next3 ((x8+1),(args++[(at' refs1 (at' ((at' x.Nodes x4).Args) x8))])))
          (rng (x.Vars+x4)/\
          ∃u2 u3 u4 r4,(lF (at' x.Nodes x4) args order place x7 x5 x6 λy1 y2 y3 y4=>y1=u2/\y2=u3/\y3=u4/\y4=r4)/\
          ((0:Int)<=(x.Vars+x4)/\(x.Vars+x4)<(refs1.length:Int))/\
          rng (x.Vars+x4)/\
          ((0:Int)<=(x.Vars+x4)/\(x.Vars+x4)<(refs1.length:Int))/\
          eB (at' (cC refs1 (x.Vars+x4) r4) (x.Vars+x4)) 4096 order place u2 u3 u4 λr5=>
          aF (!r5)
           (Q (⟨[],[],0⟩:GDiagram) (some 4))
           (rng (x4+1)/\
           next2 ((x4+1),(cC refs1 (x.Vars+x4) r4),u3,u4,u2))))
        (((0:Int)<=x.Top/\x.Top<(refs1.length:Int))/\
        fJ (at' refs1 x.Top) order place x7 x5 x6 λr6=>
        Q r6 none))))
end Go.Gg
namespace Go.Gg
def hZ (s:List Int) (Q:List Int->Prop):Prop:=
 ∀isnil:Bool,(isnil=true->s.length=0)->
 aF isnil
  (Q [])
  ((([]++s).length*8<=140737488355328)/\
  Q ([]++s))
end Go.Gg
namespace Go.Gg
def uR (x:GRat) (Q:Bool->Prop):Prop:=
 nH x λr=>
 Q (!r)
def cT (s:List GRat) (Q:Int->Prop):Prop:=
 bW (σ:=Int) 0 λx next1=>
  aF (decide (x<(s.length:Int)))
   (((0:Int)<=x/\x<(s.length:Int))/\
   uR (at' s x) λr=>
   aF r
    (Q x)
    (rng (x+1)/\
    next1 (x+1)))
   (Q (-1))
def cN (s:List GRat) (Q:Bool->Prop):Prop:=
 cT s λr=>
 Q (decide (0<=r))
def rK (p:List GRat) (vars:Int) (Q:Option Int->Prop):Prop:=
 aF ((p.length:Int) != vars)
  (Q (some 11))
  (cN p λr=>
  aF r
   (Q (some 3))
   (Q none))
def xK (v:List GRat) (r:Int) (Q:GRat->Prop):Prop:=
 aF (decide (r<2))
  (iG r λr1=>
  Q r1)
  (rng (r-2)/\
  ((0:Int)<=(r-2)/\(r-2)<(v.length:Int))/\
  Q (at' v (r-2)))
def rJ (r:Int) (v:List GRat) (Q:GRat->Prop):Prop:=
 aF (decide (r<2))
  (iG r λr1=>
  Q r1)
  (rng (r-2)/\
  ((0:Int)<=(r-2)/\(r-2)<(v.length:Int))/\
  Q (at' v (r-2)))
def oO (n:GDNode) (p:List GRat) (v:List GRat) (Q:GRat->Prop):Prop:=
 ((0:Int)<=n.Var/\n.Var<(p.length:Int))/\
 fX (iG 1) λr=>
 fX (jS r (at' p n.Var)) λr1=>
 ∃r2,(rJ n.Lo v λy1=>y1=r2)/\
 fX (gM r1 r2) λr3=>
 ∃r4,(rJ n.Hi v λy2=>y2=r4)/\
 fX (gM (at' p n.Var) r4) λr5=>
 fX (gN r3 r5) λr6=>
 Q r6
def pY (d:GDiagram) (p:List GRat) (Q:List GRat->Prop):Prop:=
 rB 56 0 (d.Nodes.length:Int)/\
 bW (σ:=Int×(List GRat)) (0,(cQ 0 (⟨false,[],[]⟩:GRat))) λ⟨x,v⟩ next1=>
  aF (decide (x<(d.Nodes.length:Int)))
   (((0:Int)<=x/\x<(d.Nodes.length:Int))/\
   oO (at' d.Nodes x) p v λr=>
   ((v++[r]).length*56<=140737488355328)/\
   rng (x+1)/\
   next1 ((x+1),(v++[r])))
   (Q v)
def vI (f:GFormula) (p:List GRat) (Q:GRat->Option Int->Prop):Prop:=
 fS f λerr=>
 aF (Option.isSome err)
  (Q (⟨false,[],[]⟩:GRat) err)
  (rK p f.Vars λerr1=>
  aF (Option.isSome err1)
   (Q (⟨false,[],[]⟩:GRat) err1)
   (vW f λr r1=>
   aF (Option.isSome r1)
    (Q (⟨false,[],[]⟩:GRat) r1)
    (nN f r λr2 r3=>
    aF (Option.isSome r3)
     (Q (⟨false,[],[]⟩:GRat) r3)
     (fX (pY r2 p) λr4=>
     fX (xK r4 r2.Root) λr5=>
     Q r5 none))))
end Go.Gg
namespace Go.Gg
def wQ (x:GRat) (Q:Bool->Prop):Prop:=
 nH x λr=>
 Q (!r)
def cX (s:List GRat) (Q:Int->Prop):Prop:=
 bW (σ:=Int) 0 λx next1=>
  aF (decide (x<(s.length:Int)))
   (((0:Int)<=x/\x<(s.length:Int))/\
   wQ (at' s x) λr=>
   aF r
    (Q x)
    (rng (x+1)/\
    next1 (x+1)))
   (Q (-1))
def cB (s:List GRat) (Q:Bool->Prop):Prop:=
 cX s λr=>
 Q (decide (0<=r))
def lO (m:GMission) (Q:Option Int->Prop):Prop:=
 aF ((m.Phases.length:Int) == 0)
  (Q (some 11))
  (aF (decide (6<(m.Phases.length:Int)))
   (Q (some 4))
   (((0:Int)<=0/\0<(m.Phases.length:Int))/\
   bW (σ:=Int) 0 λx next1=>
    aF (decide (x<(m.Phases.length:Int)))
     (((0:Int)<=x/\x<(m.Phases.length:Int))/\
     fS (at' m.Phases x) λerr=>
     aF (Option.isSome err)
      (Q err)
      (aF ((at' m.Phases x).Vars != (at' m.Phases 0).Vars)
       (Q (some 11))
       (rng (x+1)/\
       next1 (x+1))))
     (rng ((at' m.Phases 0).Vars*(m.Phases.length:Int))/\
     aF (decide (24<((at' m.Phases 0).Vars*(m.Phases.length:Int))))
      (Q (some 4))
      (aF ((m.P.length:Int) != (at' m.Phases 0).Vars)
       (Q (some 11))
       (bW (σ:=Int) 0 λx1 next2=>
        aF (decide (x1<(m.P.length:Int)))
         (((0:Int)<=x1/\x1<(m.P.length:Int))/\
         aF (((at' m.P x1).length:Int) != (m.Phases.length:Int))
          (Q (some 11))
          (cB (at' m.P x1) λr=>
          aF r
           (Q (some 3))
           (rng (x1+1)/\
           next2 (x1+1))))
         (Q none))))))
def iX (m:GMission) (h1:List Int) (Q:Option Int->Prop):Prop:=
 lO m λerr=>
 aF (Option.isSome err)
  (Q err)
  (aF ((h1.length:Int) != (m.P.length:Int))
   (Q (some 11))
   (bW (σ:=Int) 0 λx next1=>
    aF (decide (x<(h1.length:Int)))
     (((0:Int)<=x/\x<(h1.length:Int))/\
     gR (α:=Bool) (λnext2=>
      aF (decide ((at' h1 x)<0))
       (next2 true)
       (next2 (decide ((m.Phases.length:Int)<(at' h1 x)))))
      λx1=>
      aF x1
       (Q (some 3))
       (rng (x+1)/\
       next1 (x+1)))
     (Q none)))
def rN (h1:List Int) (j:Int) (Q:Int->Prop):Prop:=
 bW (σ:=Int×Int) (0,0) λ⟨set,x⟩ next1=>
  aF (decide (x<(h1.length:Int)))
   (((0:Int)<=x/\x<(h1.length:Int))/\
   aF (decide ((at' h1 x)<=j))
    ((((0:Int)<=x/\x<=64)/\rng (1*2^(Int.toNat x)))/\
    rng (x+1)/\
    next1 ((bits .or .i64 set (1*2^(Int.toNat x))),(x+1)))
    (rng (x+1)/\
    next1 (set,(x+1))))
   (Q set)
def tS (m:GMission) (h1:List Int) (Q:Int->Option Int->Prop):Prop:=
 iX m h1 λerr=>
 aF (Option.isSome err)
  (Q 0 err)
  (bW (σ:=Int) 0 λx next1=>
   aF (decide (x<(m.Phases.length:Int)))
    (((0:Int)<=x/\x<(m.Phases.length:Int))/\
    fX (rN h1 x) λr=>
    aO9 (rU (at' m.Phases x) r) λr1 r2=>
    aF (Option.isSome r2)
     (Q 0 r2)
     (aF r1
      (Q x none)
      (rng (x+1)/\
      next1 (x+1))))
    (Q (m.Phases.length:Int) none))
def rO (m:GMission) (h1:List Int) (Q:GRat->Option Int->Prop):Prop:=
 iX m h1 λerr=>
 aF (Option.isSome err)
  (Q (⟨false,[],[]⟩:GRat) err)
  (iG 1 λr=>
  bW (σ:=Int×GRat) (0,r) λ⟨x,x1⟩ next1=>
   aF (decide (x<(h1.length:Int)))
    (((0:Int)<=x/\x<(h1.length:Int))/\
    ((0:Int)<=x/\x<(m.P.length:Int))/\
    rng ((at' h1 x)+1)/\
    ((0:Int)<=0/\0<=(min ((at' h1 x)+1) (m.Phases.length:Int))/\(min ((at' h1 x)+1) (m.Phases.length:Int))<=((at' m.P x).length:Int))/\
    bW (σ:=Int×GRat) (0,x1) λ⟨x2,x3⟩ next2=>
     aF (decide (x2<((eV (at' m.P x) 0 (min ((at' h1 x)+1) (m.Phases.length:Int))).length:Int)))
      (((0:Int)<=x2/\x2<((eV (at' m.P x) 0 (min ((at' h1 x)+1) (m.Phases.length:Int))).length:Int))/\
      gR (α:=GRat) (λnext3=>
       aF (decide (x2<(at' h1 x)))
        (jS r (at' (eV (at' m.P x) 0 (min ((at' h1 x)+1) (m.Phases.length:Int))) x2) λr2=>
        next3 r2)
        (next3 (at' (eV (at' m.P x) 0 (min ((at' h1 x)+1) (m.Phases.length:Int))) x2)))
       λx4=>
       gM x3 x4 λr1=>
       rng (x2+1)/\
       next2 ((x2+1),r1))
      (rng (x+1)/\
      next1 ((x+1),x3)))
    (Q x1 none))
def gP (kind:Int) (k2:Int) (args:List Int) (Vars:Int) (_Top:Int) (Nodes:List GNode) (Q:List GNode->Int->Prop):Prop:=
 ((Nodes++[(⟨kind,k2,args⟩:GNode)]).length*40<=140737488355328)/\
 rng (Vars+((Nodes++[(⟨kind,k2,args⟩:GNode)]).length:Int))/\
 rng ((Vars+((Nodes++[(⟨kind,k2,args⟩:GNode)]).length:Int))-1)/\
 Q (Nodes++[(⟨kind,k2,args⟩:GNode)]) ((Vars+((Nodes++[(⟨kind,k2,args⟩:GNode)]).length:Int))-1)
def gO (arg:Int) (u:GFormula) (u1:Int) (u2:Int) (u3:List (List Int)) (Q:Int->Prop):Prop:=
 aF (decide (arg<u.Vars))
  (((0:Int)<=arg/\arg<(u3.length:Int))/\
  ((0:Int)<=u1/\u1<((at' u3 arg).length:Int))/\
  Q (at' (at' u3 arg) u1))
  (rng (u2+arg)/\
  rng ((u2+arg)-u.Vars)/\
  Q ((u2+arg)-u.Vars))
def rP (m:GMission) (Q:GFormula->List GRat->Option Int->Prop):Prop:=
 lO m λerr=>
 aF (Option.isSome err)
  (Q (⟨0,[],0⟩:GFormula) [] err)
  (rng ((m.P.length:Int)*(m.Phases.length:Int))/\
  rB 24 (m.P.length:Int) (m.P.length:Int)/\
  bW (σ:=Int×(List (List Int))×(List GNode)) (0,(cQ (m.P.length:Int) []),[]) λ⟨x,x1,x2⟩ next1=>
   aF (decide (x<((Int.toNat (m.P.length:Int)):Int)))
    (bW (σ:=Int×(List (List Int))×(List Int)×(List GNode)) (0,x1,[],x2) λ⟨x3,x4,so,x5⟩ next2=>
     aF (decide (x3<(m.Phases.length:Int)))
      (rng (x*(m.Phases.length:Int))/\
      rng ((x*(m.Phases.length:Int))+x3)/\
      ((so++[((x*(m.Phases.length:Int))+x3)]).length*8<=140737488355328)/\
      aF (x3 == 0)
       (((0:Int)<=x/\x<(x4.length:Int))/\
       ((0:Int)<=0/\0<((so++[((x*(m.Phases.length:Int))+x3)]).length:Int))/\
       ((at' x4 x++[(at' (so++[((x*(m.Phases.length:Int))+x3)]) 0)]).length*8<=140737488355328)/\
       ((0:Int)<=x/\x<(x4.length:Int))/\
       rng (x3+1)/\
       next2 ((x3+1),(cC x4 x (at' x4 x++[(at' (so++[((x*(m.Phases.length:Int))+x3)]) 0)])),(so++[((x*(m.Phases.length:Int))+x3)]),x5))
       (((0:Int)<=x/\x<(x4.length:Int))/\
       ∃r,(hZ (so++[((x*(m.Phases.length:Int))+x3)]) λy1=>y1=r)/\
       ∃u r1,(gP 3 0 r ((m.P.length:Int)*(m.Phases.length:Int)) 0 x5 λy2 y3=>y2=u/\y3=r1)/\
       ((at' x4 x++[r1]).length*8<=140737488355328)/\
       ((0:Int)<=x/\x<(x4.length:Int))/\
       rng (x3+1)/\
       next2 ((x3+1),(cC x4 x (at' x4 x++[r1])),(so++[((x*(m.Phases.length:Int))+x3)]),u)))
      (rng (x+1)/\
      next1 ((x+1),x4,x5)))
    (bW (σ:=Int×(List Int)×(List GNode)) (0,[],x2) λ⟨x6,tops,x7⟩ next3=>
     aF (decide (x6<(m.Phases.length:Int)))
      (((0:Int)<=x6/\x6<(m.Phases.length:Int))/\
      rng (((m.P.length:Int)*(m.Phases.length:Int))+(x7.length:Int))/\
      bW (σ:=Int×(List GNode)) (0,x7) λ⟨x8,x9⟩ next4=>
       aF (decide (x8<(((at' m.Phases x6).Nodes).length:Int)))
        (((0:Int)<=x8/\x8<(((at' m.Phases x6).Nodes).length:Int))/\
        bW (σ:=Int×(List Int)) (0,[]) λ⟨x10,args⟩ next5=>
         aF (decide (x10<(((at' ((at' m.Phases x6).Nodes) x8).Args).length:Int)))
          (((0:Int)<=x10/\x10<(((at' ((at' m.Phases x6).Nodes) x8).Args).length:Int))/\
          sH (at' ((at' ((at' m.Phases x6).Nodes) x8).Args) x10) λa=>
          gO a (at' m.Phases x6) x6 (((m.P.length:Int)*(m.Phases.length:Int))+(x7.length:Int)) x1 λr2=>
          ((args++[r2]).length*8<=140737488355328)/\
          rng (x10+1)/\
          next5 ((x10+1),(args++[r2])))
          (gP ((at' ((at' m.Phases x6).Nodes) x8).Kind) ((at' ((at' m.Phases x6).Nodes) x8).K) args ((m.P.length:Int)*(m.Phases.length:Int)) 0 x9 λu1 _=>
          rng (x8+1)/\
          next4 ((x8+1),u1)))
        (gO ((at' m.Phases x6).Top) (at' m.Phases x6) x6 (((m.P.length:Int)*(m.Phases.length:Int))+(x7.length:Int)) x1 λr4=>
        ((tops++[r4]).length*8<=140737488355328)/\
        rng (x6+1)/\
        next3 ((x6+1),(tops++[r4]),x9)))
      (((0:Int)<=0/\0<(tops.length:Int))/\
      gR (α:=Int×(List GNode)) (λnext8=>
       aF (decide (1<(m.Phases.length:Int)))
        (gP 3 0 tops ((m.P.length:Int)*(m.Phases.length:Int)) (at' tops 0) x7 λu2 r6=>
        next8 (r6,u2))
        (next8 ((at' tops 0),x7)))
       λ⟨x11,x12⟩=>
       aF (decide (128<(x12.length:Int)))
        (Q (⟨0,[],0⟩:GFormula) [] (some 4))
        (bW (σ:=Int×(List GRat)) (0,[]) λ⟨x13,p⟩ next6=>
         aF (decide (x13<(m.P.length:Int)))
          (((0:Int)<=x13/\x13<(m.P.length:Int))/\
          bW (σ:=Int×(List GRat)) (0,p) λ⟨x14,p1⟩ next7=>
           aF (decide (x14<((at' m.P x13).length:Int)))
            (((0:Int)<=x14/\x14<((at' m.P x13).length:Int))/\
            gN (at' (at' m.P x13) x14) (⟨false,[],[]⟩:GRat) λr5=>
            ((p1++[r5]).length*56<=140737488355328)/\
            rng (x14+1)/\
            next7 ((x14+1),(p1++[r5])))
            (rng (x13+1)/\
            next6 ((x13+1),p1)))
          (Q (⟨((m.P.length:Int)*(m.Phases.length:Int)),x12,x11⟩:GFormula) p none)))))
end Go.Gg
namespace Go.Gg
def gL (m:GMission) (Q:Int->Prop):Prop:=
 ((0:Int)<=0/\0<(m.Phases.length:Int))/\
 Q ((at' m.Phases 0).Vars)
def wJ (m:GMission) (Q:Int->Prop):Prop:=
 aF ((m.Phases.length:Int) == 0)
  (Q 11)
  (aF (decide (6<(m.Phases.length:Int)))
   (Q 4)
   (bW (σ:=Int) 0 λj next1=>
    aF (decide (j<(m.Phases.length:Int)))
     (((0:Int)<=j/\j<(m.Phases.length:Int))/\
     vQ (at' m.Phases j) λe=>
     aF (e != 0)
      (Q e)
      (((0:Int)<=j/\j<(m.Phases.length:Int))/\
      fX (gL m) λr=>
      aF ((at' m.Phases j).Vars != r)
       (Q 11)
       (rng (j+1)/\
       next1 (j+1))))
     (Q 0)))
def mW (m:GMission) (Q:Int->Prop):Prop:=
 wJ m λe=>
 aF (e != 0)
  (Q e)
  (fX (gL m) λr=>
  rng (r*(m.Phases.length:Int))/\
  aF (decide (24<(r*(m.Phases.length:Int))))
   (Q 4)
   (fX (gL m) λr1=>
   aF ((m.P.length:Int) != r1)
    (Q 11)
    (bW (σ:=Int) 0 λi next1=>
     aF (decide (i<(m.P.length:Int)))
      (((0:Int)<=i/\i<(m.P.length:Int))/\
      aF (((at' m.P i).length:Int) != (m.Phases.length:Int))
       (Q 11)
       (bW (σ:=Int) 0 λj next2=>
        ((0:Int)<=i/\i<(m.P.length:Int))/\
        aF (decide (j<((at' m.P i).length:Int)))
         (((0:Int)<=i/\i<(m.P.length:Int))/\
         ((0:Int)<=j/\j<((at' m.P i).length:Int))/\
         xM (at' (at' m.P i) j) λr2=>
         aF (!r2)
          (Q 3)
          (rng (j+1)/\
          next2 (j+1)))
         (rng (i+1)/\
         next1 (i+1))))
      (Q 0))))
def oT (events:Int) (phases:Int) (Q:List (List Int)->Prop):Prop:=
 bW (σ:=(List (List Int))×Int) ([[]],0) λ⟨out,i⟩ next1=>
  aF (decide (i<events))
   (bW (σ:=Int×(List (List Int))) (0,[]) λ⟨k1,next2⟩ next3=>
    aF (decide (k1<(out.length:Int)))
     (bW (σ:=Int×(List (List Int))) (0,next2) λ⟨j,next4⟩ next5=>
      aF (decide (j<=phases))
       (((0:Int)<=k1/\k1<(out.length:Int))/\
       ((at' out k1).length*8<=140737488355328)/\
       (((at' out k1)++[j]).length*8<=140737488355328)/\
       ((next4++[((at' out k1)++[j])]).length*24<=140737488355328)/\
       rng (j+1)/\
       next5 ((j+1),(next4++[((at' out k1)++[j])])))
       (rng (k1+1)/\
       next3 ((k1+1),next4)))
     (rng (i+1)/\
     next1 (next2,(i+1))))
   (Q out)
def tJ (h1:List Int) (j:Int) (Q:Int->Prop):Prop:=
 bW (σ:=Int×Int) (0,0) λ⟨out,i⟩ next1=>
  aF (decide (i<(h1.length:Int)))
   (((0:Int)<=i/\i<(h1.length:Int))/\
   aF (decide ((at' h1 i)<=j))
    ((((0:Int)<=i/\i<=64)/\rng (1*2^(Int.toNat i)))/\
    rng (i+1)/\
    next1 ((bits .or .i64 out (1*2^(Int.toNat i))),(i+1)))
    (rng (i+1)/\
    next1 (out,(i+1))))
   (Q out)
def vM (m:GMission) (h1:List Int) (Q:Int->Prop):Prop:=
 bW (σ:=Int) 0 λj next1=>
  aF (decide (j<(m.Phases.length:Int)))
   (((0:Int)<=j/\j<(m.Phases.length:Int))/\
   fX (tJ h1 j) λr=>
   fX (vN (at' m.Phases j) r) λr1=>
   aF r1
    (Q j)
    (rng (j+1)/\
    next1 (j+1)))
   (Q (m.Phases.length:Int))
def tI (m:GMission) (h1:List Int) (Q:GRat->Prop):Prop:=
 nQ 1 λr=>
 bW (σ:=Int×GRat) (0,r) λ⟨i,x⟩ next1=>
  aF (decide (i<(h1.length:Int)))
   (bW (σ:=Int×GRat) (0,x) λ⟨k1,x1⟩ next2=>
    ((0:Int)<=i/\i<(h1.length:Int))/\
    aF (decide (k1<(at' h1 i)))
     (fX (nQ 1) λr1=>
     ((0:Int)<=i/\i<(m.P.length:Int))/\
     ((0:Int)<=k1/\k1<((at' m.P i).length:Int))/\
     fX (nX r1 (at' (at' m.P i) k1)) λr2=>
     fX (nY x1 r2) λr3=>
     rng (k1+1)/\
     next2 ((k1+1),r3))
     (((0:Int)<=i/\i<(h1.length:Int))/\
     aF (decide ((at' h1 i)<(m.Phases.length:Int)))
      (((0:Int)<=i/\i<(m.P.length:Int))/\
      ((0:Int)<=i/\i<(h1.length:Int))/\
      ((0:Int)<=(at' h1 i)/\(at' h1 i)<((at' m.P i).length:Int))/\
      fX (nY x1 (at' (at' m.P i) (at' h1 i))) λr4=>
      rng (i+1)/\
      next1 ((i+1),r4))
      (rng (i+1)/\
      next1 ((i+1),x1))))
   (Q x)
end Go.Gg
namespace Go.Gg
def jO (m:GMission) (Q:List GRat->Option Int->Prop):Prop:=
 lO m λerr=>
 aF (Option.isSome err)
  (Q [] err)
  (bW (σ:=Int×Int) (1,0) λ⟨all,x⟩ next1=>
   aF (decide (x<(m.P.length:Int)))
    (rng ((m.Phases.length:Int)+1)/\
    rng (all*((m.Phases.length:Int)+1))/\
    aF (decide (4096<(all*((m.Phases.length:Int)+1))))
     (Q [] (some 4))
     (rng (x+1)/\
     next1 ((all*((m.Phases.length:Int)+1)),(x+1))))
    (rB 56 (m.Phases.length:Int) (m.Phases.length:Int)/\
    bW (σ:=Int×(List GRat)) (0,(cQ (m.Phases.length:Int) (⟨false,[],[]⟩:GRat))) λ⟨x1,out⟩ next2=>
     aF (decide (x1<all))
      (rB 8 (m.P.length:Int) (m.P.length:Int)/\
      bW (σ:=Int×Int×(List Int)) (x1,0,(cQ (m.P.length:Int) 0)) λ⟨number,x2,h1⟩ next3=>
       aF (decide (x2<((Int.toNat (m.P.length:Int)):Int)))
        (rng ((m.Phases.length:Int)+1)/\
        ((m.Phases.length:Int)+1)≠0/\
        rng ((m.Phases.length:Int)+1)/\
        (((m.Phases.length:Int)+1)≠0/\rng (Int.tdiv number ((m.Phases.length:Int)+1)))/\
        ((0:Int)<=x2/\x2<(h1.length:Int))/\
        rng (x2+1)/\
        next3 ((Int.tdiv number ((m.Phases.length:Int)+1)),(x2+1),(cC h1 x2 (Int.tmod number ((m.Phases.length:Int)+1)))))
        (tS m h1 λr r1=>
        aF (Option.isSome r1)
         (Q [] r1)
         (aF (r == (m.Phases.length:Int))
          (rng (x1+1)/\
          next2 ((x1+1),out))
          (rO m h1 λr2 r3=>
          aF (Option.isSome r3)
           (Q [] r3)
           (((0:Int)<=r/\r<(out.length:Int))/\
           fX (gN (at' out r) r2) λr4=>
           ((0:Int)<=r/\r<(out.length:Int))/\
           rng (x1+1)/\
           next2 ((x1+1),(cC out r r4)))))))
      (Q out none)))
def rR (m:GMission) (Q:GRat->Option Int->Prop):Prop:=
 rP m λr r1 r2=>
 aF (Option.isSome r2)
  (Q (⟨false,[],[]⟩:GRat) r2)
  (vI r r1 λr3 r4=>
  Q r3 r4)
end Go.Gg
namespace Go.Gg
def jH (m:GMission) (Q:Int->Prop):Prop:=
 bW (σ:=Int×Int) (1,0) λ⟨n,i⟩ next1=>
  gL m λr=>
  aF (decide (i<r))
   (aF (decide (n<=4096))
    (rng ((m.Phases.length:Int)+1)/\
    rng (n*((m.Phases.length:Int)+1))/\
    rng (i+1)/\
    next1 ((n*((m.Phases.length:Int)+1)),(i+1)))
    (Q n))
   (Q n)
def oS (m:GMission) (Q:List GRat->Prop):Prop:=
 rB 56 (m.Phases.length:Int) (m.Phases.length:Int)/\
 fX (gL m) λr=>
 fX (oT r (m.Phases.length:Int)) λl=>
 bW (σ:=Int×(List GRat)) (0,(cQ (m.Phases.length:Int) (⟨false,[],[]⟩:GRat))) λ⟨i,out⟩ next1=>
  aF (decide (i<(l.length:Int)))
   (((0:Int)<=i/\i<(l.length:Int))/\
   fX (vM m (at' l i)) λj=>
   aF (decide (j<(m.Phases.length:Int)))
    (((0:Int)<=j/\j<(out.length:Int))/\
    ((0:Int)<=i/\i<(l.length:Int))/\
    fX (tI m (at' l i)) λr1=>
    fX (oA (at' out j) r1) λr2=>
    ((0:Int)<=j/\j<(out.length:Int))/\
    rng (i+1)/\
    next1 ((i+1),(cC out j r2)))
    (rng (i+1)/\
    next1 ((i+1),out)))
   (Q out)
end Go.Gg
namespace Go.Gg
end Go.Gg
namespace Go.Gg
def mG (n:Int) (d:Int) (Q:GRat->Prop):Prop:=
 sJ n d λr _=>
 Q r
def nL (Q:GMission->Prop):Prop:=
 mG 1 2 λr=>
 Q (⟨[(⟨2,[(⟨2,0,[0,1]⟩:GNode)],2⟩:GFormula),(⟨2,[(⟨3,0,[0,1]⟩:GNode)],2⟩:GFormula)],[[r,r],[r,r]]⟩:GMission)
def qP (Q:Bool->Prop):Prop:=
 nL λr=>
 jO r λr1 r2=>
 nL λr3=>
 rR r3 λr4 r5=>
 aF (Option.isNone r2)
  (aF (Option.isNone r5)
   (fX (mG 15 16) λr6=>
   fX (yG r4 r6) λr7=>
   aF r7
    (fX (mG 1 4) λr8=>
    fX (mG 11 16) λr9=>
    fX (rH r1 [r8,r9]) λr10=>
    Q r10)
    (Q false))
   (Q false))
  (Q false)
def wC (m:GMission) (Q:Bool->Prop):Prop:=
 aF (decide (20<(m.Phases.length:Int)))
  (Q true)
  (aF (decide (50<(m.P.length:Int)))
   (Q true)
   (bW (σ:=Int) 0 λi next1=>
    aF (decide (i<(m.P.length:Int)))
     (((0:Int)<=i/\i<(m.P.length:Int))/\
     aF (decide (50<((at' m.P i).length:Int)))
      (Q true)
      (bW (σ:=Int) 0 λj next2=>
       ((0:Int)<=i/\i<(m.P.length:Int))/\
       aF (decide (j<((at' m.P i).length:Int)))
        (((0:Int)<=i/\i<(m.P.length:Int))/\
        ((0:Int)<=j/\j<((at' m.P i).length:Int))/\
        aF (decide (4<(((at' (at' m.P i) j).Num).length:Int)))
         (Q true)
         (((0:Int)<=i/\i<(m.P.length:Int))/\
         ((0:Int)<=j/\j<((at' m.P i).length:Int))/\
         aF (decide (4<(((at' (at' m.P i) j).Den).length:Int)))
          (Q true)
          (rng (j+1)/\
          next2 (j+1))))
        (rng (i+1)/\
        next1 (i+1))))
     (mW m λr=>
     aF (r == 0)
      (jH m λr1=>
      aF (decide (300<r1))
       (jH m λr2=>
       Q (decide (r2<=4096)))
       (Q false))
      (Q false))))
def xX (m:GMission) (Q:Bool->Prop):Prop:=
 mW m λr=>
 aF (r == 0)
  (jH m λr1=>
  Q (decide (4096<r1)))
  (Q false)
end Go.Gg
namespace Go.Gg
def mJ (m:GMission) (Q:Bool->Prop):Prop:=
 gR (α:=Bool) (λnext2=>
  qP λr7=>
  aF (!r7)
   (next2 true)
   (wC m λr8=>
   next2 r8))
  λx=>
  aF x
   (qP λr=>
   Q r)
   (jO m λr1 r2=>
   mW m λcode=>
   gR (α:=Int) (λnext1=>
    aF (code == 0)
     (xX m λr6=>
     aF r6
      (next1 4)
      (next1 code))
     (next1 code))
    λcode1=>
    aF (code1 != 0)
     (aF ((r1.length:Int) == 0)
      (aBj r2 λr3=>
      Q (r3 == code1))
      (Q false))
     (aF (Option.isNone r2)
      (oS m λr4=>
      rH r1 r4 λr5=>
      Q r5)
      (Q false)))
end Go.Gg
