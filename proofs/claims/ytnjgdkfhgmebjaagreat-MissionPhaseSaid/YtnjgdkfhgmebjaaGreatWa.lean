/- The structures of the program and how they are encoded. Conditions: none. -/
import Derived.Test.YtnjgdkfhgmebjaaGreatGc
import Derived.Test.YtnjgdkfhgmebjaaGreatGf
import Derived.Test.YtnjgdkfhgmebjaaGreatGd
namespace Go.Gg
structure GNode where
 Kind:Int
 K:Int
 Args:List Int
instance:Inhabited GNode:=⟨⟨0,0,[]⟩⟩
def bG (r:GNode):AV:=.agg [.int .i64 r.Kind,.int .i64 r.K,eL (AV.int .i64) r.Args]
structure GFormula where
 Vars:Int
 Nodes:List GNode
 Top:Int
instance:Inhabited GFormula:=⟨⟨0,[],0⟩⟩
def aF (r:GFormula):AV:=.agg [.int .i64 r.Vars,eL bG r.Nodes,.int .i64 r.Top]
structure GRat where
 Neg:Bool
 Num:List Int
 Den:List Int
instance:Inhabited GRat:=⟨⟨false,[],[]⟩⟩
def aH (r:GRat):AV:=.agg [.bool r.Neg,eL (AV.int .u32) r.Num,eL (AV.int .u32) r.Den]
structure GCauseGroup where
 Kind:Int
 Members:List Int
 Factors:List GRat
instance:Inhabited GCauseGroup:=⟨⟨0,[],[]⟩⟩
structure GCauses where
 P:List GRat
 Groups:List GCauseGroup
instance:Inhabited GCauses:=⟨⟨[],[]⟩⟩
structure GMission where
 Phases:List GFormula
 P:List (List GRat)
instance:Inhabited GMission:=⟨⟨[],[]⟩⟩
def aK (r:GMission):AV:=.agg [eL aF r.Phases,eL (eL aH) r.P]
structure GCube where
 Yes:Int
 No:Int
instance:Inhabited GCube:=⟨⟨0,0⟩⟩
structure Gcause where
 p:GRat
 members:List Int
instance:Inhabited Gcause:=⟨⟨default,[]⟩⟩
structure GDNode where
 Var:Int
 Lo:Int
 Hi:Int
instance:Inhabited GDNode:=⟨⟨0,0,0⟩⟩
def bE (r:GDNode):AV:=.agg [.int .i64 r.Var,.int .i64 r.Lo,.int .i64 r.Hi]
structure GDiagram where
 Order:List Int
 Nodes:List GDNode
 Root:Int
instance:Inhabited GDiagram:=⟨⟨[],[],0⟩⟩
def kL (r:GDiagram):AV:=.agg [eL (AV.int .i64) r.Order,eL bE r.Nodes,.int .i64 r.Root]
structure GZero where
 Nodes:List GDNode
 Root:Int
instance:Inhabited GZero:=⟨⟨[],0⟩⟩
structure Gtable where
 events:List Int
 true:List Bool
instance:Inhabited Gtable:=⟨⟨[],[]⟩⟩
structure Gwalk where
 Formula:GFormula
 events:List Int
 seen:List Bool
instance:Inhabited Gwalk:=⟨⟨default,[],[]⟩⟩
structure GsetsKey where
 op:Int
 a:Int
 b:Int
instance:Inhabited GsetsKey:=⟨⟨0,0,0⟩⟩
end Go.Gg
namespace Go.Gg
def mY:ByteArray:=⟨#[0,1,2,2,3,3,3,3,4,4,4,4,4,4,4,4,5,5,5,5,5,5,5,5,5,5,5,5,5,5,5,5,6,6,6,6,6,6,6,6,6,6,6,6,6,6,6,6,6,6,6,6,6,6,6,6,6,6,6,6,6,6,6,6,7,7,7,7,7,7,7,7,7,7,7,7,7,7,7,7,7,7,7,7,7,7,7,7,7,7,7,7,7,7,7,7,7,7,7,7,7,7,7,7,7,7,7,7,7,7,7,7,7,7,7,7,7,7,7,7,7,7,7,7,7,7,7,7,8,8,8,8,8,8,8,8,8,8,8,8,8,8,8,8,8,8,8,8,8,8,8,8,8,8,8,8,8,8,8,8,8,8,8,8,8,8,8,8,8,8,8,8,8,8,8,8,8,8,8,8,8,8,8,8,8,8,8,8,8,8,8,8,8,8,8,8,8,8,8,8,8,8,8,8,8,8,8,8,8,8,8,8,8,8,8,8,8,8,8,8,8,8,8,8,8,8,8,8,8,8,8,8,8,8,8,8,8,8,8,8,8,8,8,8,8,8,8,8,8,8,8,8,8,8,8,8]⟩
def dO (a:List Int) (Q:List Int->Prop):Prop:=
 gG (α:=Int) (λnext1=>
  bX (σ:=Int) (a.length:Int) λn1 next2=>
   aG (decide (0<n1))
    (rng (n1-1)/\
    ((0:Int)<=(n1-1)/\(n1-1)<(a.length:Int))/\
    aG ((at' a (n1-1)) == 0)
     (rng (n1-1)/\
     next2 (n1-1))
     (next1 n1))
    (next1 n1))
  λn=>
  aG (n == 0)
   (Q [])
   (((0:Int)<=0/\0<=n/\n<=(a.length:Int))/\
   (([]++(dW a 0 n)).length*4<=140737488355328)/\
   Q ([]++(dW a 0 n)))
def gQ (a:List Int) (b:List Int) (Q:Int->Prop):Prop:=
 dO a λa1=>
 dO b λb1=>
 aG ((a1.length:Int) != (b1.length:Int))
  (aG (decide ((a1.length:Int)<(b1.length:Int)))
   (Q (-1))
   (Q 1))
  (rng ((a1.length:Int)-1)/\
  bX (σ:=Int) ((a1.length:Int)-1) λi next1=>
   aG (decide (0<=i))
    (((0:Int)<=i/\i<(a1.length:Int))/\
    ((0:Int)<=i/\i<(b1.length:Int))/\
    aG (decide ((at' a1 i)<(at' b1 i)))
     (Q (-1))
     (((0:Int)<=i/\i<(a1.length:Int))/\
     ((0:Int)<=i/\i<(b1.length:Int))/\
     aG (decide ((at' b1 i)<(at' a1 i)))
      (Q 1)
      (rng (i-1)/\
      next1 (i-1))))
    (Q 0))
def tG (n:Int) (Q:List Int->Prop):Prop:=
 aG (decide (n<=0))
  (Q [])
  (dO [(IntKind.wrap .u32 n),(IntKind.wrap .u32 (n / 2^(Int.toNat 32)))] λr=>
  Q r)
def oB (a:List Int) (b:Int) (Q:List Int->Int->Prop):Prop:=
 tH 4 (a.length:Int) (a.length:Int)/\
 rng ((a.length:Int)-1)/\
 bX (σ:=Int×Int×(List Int)) (0,((a.length:Int)-1),(dA (a.length:Int) 0)) λ⟨rest,i,out⟩ next1=>
  aG (decide (0<=i))
   (((0:Int)<=i/\i<(a.length:Int))/\
   sZ (bits .or .u64 (IntKind.wrap .u64 (rest*2^(Int.toNat 32))) (IntKind.wrap .u64 (at' a i))) λrest1=>
   (IntKind.wrap .u64 b)≠0/\
   ((0:Int)<=i/\i<(out.length:Int))/\
   (IntKind.wrap .u64 b)≠0/\
   rng (i-1)/\
   next1 ((Int.tmod rest1 (IntKind.wrap .u64 b)),(i-1),(cJ out i (IntKind.wrap .u32 (IntKind.wrap .u64 (Int.tdiv rest1 (IntKind.wrap .u64 b)))))))
   (dO out λr=>
   Q r (IntKind.wrap .u32 rest))
def mB (x:Int) (Q:Int->Prop):Prop:=
 gG (α:=Int×Int) (λnext2=>
  aG (decide (65536<=x))
   (next2 ((x / 2^(Int.toNat 16)),16))
   (next2 (x,0)))
  λ⟨x1,n⟩=>
  gG (α:=Int×Int) (λnext1=>
   aG (decide (256<=x1))
    (rng (n+8)/\
    next1 ((x1 / 2^(Int.toNat 8)),(n+8)))
    (next1 (x1,n)))
   λ⟨x2,n1⟩=>
   ((0:Int)<=(IntKind.wrap .u8 x2)/\(IntKind.wrap .u8 x2)<(mY.size:Int))/\
   rng (n1+(IntKind.wrap .i64 (aBE mY (Int.toNat (IntKind.wrap .u8 x2)))))/\
   sZ (n1+(IntKind.wrap .i64 (aBE mY (Int.toNat (IntKind.wrap .u8 x2))))) λn2=>
   Q n2
def jE (x:Int) (Q:Int->Prop):Prop:=
 mB x λr=>
 rng (32-r)/\
 Q (32-r)
def jD (a:List Int) (n:Int) (Q:List Int->Prop):Prop:=
 rng ((a.length:Int)+1)/\
 tH 4 ((a.length:Int)+1) ((a.length:Int)+1)/\
 bX (σ:=Int×(List Int)) (0,(dA ((a.length:Int)+1) 0)) λ⟨x,out⟩ next1=>
  aG (decide (x<(a.length:Int)))
   (((0:Int)<=x/\x<(a.length:Int))/\
   ((0:Int)<=n/\n<=64)/\
   sZ (IntKind.wrap .u64 ((IntKind.wrap .u64 (at' a x))*2^(Int.toNat n))) λy1=>
   ((0:Int)<=x/\x<(out.length:Int))/\
   ((0:Int)<=x/\x<(out.length:Int))/\
   rng (x+1)/\
   ((0:Int)<=(x+1)/\(x+1)<(out.length:Int))/\
   rng (x+1)/\
   next1 ((x+1),(cJ (cJ out x (bits .or .u32 (at' out x) (IntKind.wrap .u32 y1))) (x+1) (IntKind.wrap .u32 (y1 / 2^(Int.toNat 32))))))
   (Q out)
def fM (a:List Int) (i:Int) (Q:Int->Prop):Prop:=
 aG (decide (i<(a.length:Int)))
  (((0:Int)<=i/\i<(a.length:Int))/\
  Q (IntKind.wrap .u64 (at' a i)))
  (Q 0)
def uG (u:List Int) (uo:Nat) (ul:Nat) (v:List Int) (n:Int) (Q:List Int->Bool->Prop):Prop:=
 bX (σ:=Int×Int×Int×(List Int)) (0,0,0,u) λ⟨carry,borrow,x,u1⟩ next1=>
  aG (decide (x<(ul:Int)))
   (fM v x λr=>
   sZ (IntKind.wrap .u64 (carry+(IntKind.wrap .u64 (n*r)))) λcarry1=>
   ((0:Int)<=x/\x<(ul:Int))/\
   (Int.toNat ((uo:Int)+x))<u1.length/\
   sZ (IntKind.wrap .u64 ((IntKind.wrap .u64 ((IntKind.wrap .u64 (at' u1 ((uo:Int)+x)))-(IntKind.wrap .u64 (IntKind.wrap .u32 carry1))))-borrow)) λd=>
   ((0:Int)<=x/\x<(ul:Int))/\
   (Int.toNat ((uo:Int)+x))<u1.length/\
   rng (x+1)/\
   next1 ((carry1 / 2^(Int.toNat 32)),(d / 2^(Int.toNat 63)),(x+1),(cJ u1 ((uo:Int)+x) (IntKind.wrap .u32 d))))
   (Q u1 (borrow == 1))
def uH (u:List Int) (uo:Nat) (ul:Nat) (v:List Int) (Q:List Int->Prop):Prop:=
 bX (σ:=Int×Int×(List Int)) (0,0,u) λ⟨carry,x,u1⟩ next1=>
  aG (decide (x<(ul:Int)))
   (((0:Int)<=x/\x<(ul:Int))/\
   (Int.toNat ((uo:Int)+x))<u1.length/\
   iH (fM v x) λr=>
   ((0:Int)<=x/\x<(ul:Int))/\
   (Int.toNat ((uo:Int)+x))<u1.length/\
   sZ ((IntKind.wrap .u64 (carry+(IntKind.wrap .u64 ((IntKind.wrap .u64 (at' u1 ((uo:Int)+x)))+r)))) / 2^(Int.toNat 32)) λcarry1=>
   rng (x+1)/\
   next1 (carry1,(x+1),(cJ u1 ((uo:Int)+x) (IntKind.wrap .u32 (IntKind.wrap .u64 (carry+(IntKind.wrap .u64 ((IntKind.wrap .u64 (at' u1 ((uo:Int)+x)))+r))))))))
   (Q u1)
def oC (a:List Int) (n:Int) (Q:List Int->Prop):Prop:=
 tH 4 (a.length:Int) (a.length:Int)/\
 bX (σ:=Int×(List Int)) (0,(dA (a.length:Int) 0)) λ⟨x,out⟩ next1=>
  aG (decide (x<(a.length:Int)))
   (fM a x λr=>
   rng (x+1)/\
   fM a (x+1) λr1=>
   ((0:Int)<=n/\n<=64)/\
   ((0:Int)<=x/\x<(out.length:Int))/\
   rng (x+1)/\
   next1 ((x+1),(cJ out x (IntKind.wrap .u32 ((bits .or .u64 r (IntKind.wrap .u64 (r1*2^(Int.toNat 32)))) / 2^(Int.toNat n))))))
   (Q out)
def nT (a:List Int) (b:List Int) (Q:List Int->List Int->Option Int->Prop):Prop:=
 dO a λa1=>
 dO b λb1=>
 aG ((b1.length:Int) == 0)
  (Q [] [] (some 8))
  (gQ a1 b1 λr=>
  aG (decide (r<0))
   (Q [] a1 none)
   (aG ((b1.length:Int) == 1)
    (((0:Int)<=0/\0<(b1.length:Int))/\
    oB a1 (at' b1 0) λr1 r2=>
    tG (IntKind.wrap .i64 r2) λr3=>
    Q r1 r3 none)
    (rng ((b1.length:Int)-1)/\
    ((0:Int)<=((b1.length:Int)-1)/\((b1.length:Int)-1)<(b1.length:Int))/\
    jE (at' b1 ((b1.length:Int)-1)) λn=>
    jD b1 n λr4=>
    ((0:Int)<=0/\0<=(b1.length:Int)/\(b1.length:Int)<=(r4.length:Int))/\
    sZ (dW r4 0 (b1.length:Int)) λv=>
    jD a1 n λu=>
    rng ((v.length:Int)-1)/\
    ((0:Int)<=((v.length:Int)-1)/\((v.length:Int)-1)<(v.length:Int))/\
    rng ((v.length:Int)-2)/\
    ((0:Int)<=((v.length:Int)-2)/\((v.length:Int)-2)<(v.length:Int))/\
    rng ((u.length:Int)-(v.length:Int))/\
    tH 4 ((u.length:Int)-(v.length:Int)) ((u.length:Int)-(v.length:Int))/\
    rng (((Int.toNat ((u.length:Int)-(v.length:Int))):Int)-1)/\
    sZ (((Int.toNat ((u.length:Int)-(v.length:Int))):Int)-1) λj=>
    bX (σ:=Int×(List Int)×(List Int)) (j,u,(dA ((u.length:Int)-(v.length:Int)) 0)) λ⟨j1,u1,q⟩ next1=>
     aG (decide (0<=j1))
      (rng (j1+(v.length:Int))/\
      ((0:Int)<=(j1+(v.length:Int))/\(j1+(v.length:Int))<(u1.length:Int))/\
      rng (j1+(v.length:Int))/\
      rng ((j1+(v.length:Int))-1)/\
      ((0:Int)<=((j1+(v.length:Int))-1)/\((j1+(v.length:Int))-1)<(u1.length:Int))/\
      (IntKind.wrap .u64 (at' v ((v.length:Int)-1)))≠0/\
      (IntKind.wrap .u64 (at' v ((v.length:Int)-1)))≠0/\
      gG (α:=Int) (λnext3=>
       bX (σ:=Int×Int) ((IntKind.wrap .u64 (Int.tdiv (bits .or .u64 (IntKind.wrap .u64 ((IntKind.wrap .u64 (at' u1 (j1+(v.length:Int))))*2^(Int.toNat 32))) (IntKind.wrap .u64 (at' u1 ((j1+(v.length:Int))-1)))) (IntKind.wrap .u64 (at' v ((v.length:Int)-1))))),(Int.tmod (bits .or .u64 (IntKind.wrap .u64 ((IntKind.wrap .u64 (at' u1 (j1+(v.length:Int))))*2^(Int.toNat 32))) (IntKind.wrap .u64 (at' u1 ((j1+(v.length:Int))-1)))) (IntKind.wrap .u64 (at' v ((v.length:Int)-1))))) λ⟨guess2,rest⟩ next4=>
        gG (α:=Unit) (λnext5=>
         aG (decide (4294967296<=guess2))
          (next5 ())
          (rng (j1+(v.length:Int))/\
          rng ((j1+(v.length:Int))-2)/\
          ((0:Int)<=((j1+(v.length:Int))-2)/\((j1+(v.length:Int))-2)<(u1.length:Int))/\
          aG (decide ((bits .or .u64 (IntKind.wrap .u64 (rest*2^(Int.toNat 32))) (IntKind.wrap .u64 (at' u1 ((j1+(v.length:Int))-2))))<(IntKind.wrap .u64 (guess2*(IntKind.wrap .u64 (at' v ((v.length:Int)-2)))))))
           (next5 ())
           (next3 guess2)))
         λ_=>
         sZ (IntKind.wrap .u64 (rest+(IntKind.wrap .u64 (at' v ((v.length:Int)-1))))) λrest1=>
         aG (decide (4294967296<=rest1))
          (next3 (IntKind.wrap .u64 (guess2-1)))
          (next4 ((IntKind.wrap .u64 (guess2-1)),rest1)))
       λguess=>
       gG (α:=Int×(List Int)) (λnext2=>
        rng (j1+(v.length:Int))/\
        rng ((j1+(v.length:Int))+1)/\
        ((0:Int)<=j1/\j1<=((j1+(v.length:Int))+1)/\((j1+(v.length:Int))+1)<=(u1.length:Int))/\
        uG u1 (0+Int.toNat j1) (Int.toNat ((j1+(v.length:Int))+1)-Int.toNat j1) v guess λu3 r5=>
        u3.length=u1.length/\
        aG r5
         (rng (j1+(v.length:Int))/\
         rng ((j1+(v.length:Int))+1)/\
         ((0:Int)<=j1/\j1<=((j1+(v.length:Int))+1)/\((j1+(v.length:Int))+1)<=(u1.length:Int))/\
         uH u3 (0+Int.toNat j1) (Int.toNat ((j1+(v.length:Int))+1)-Int.toNat j1) v λu4=>
         u4.length=u3.length/\
         next2 ((IntKind.wrap .u64 (guess-1)),u4))
         (next2 (guess,u3)))
        λ⟨guess1,u2⟩=>
        ((0:Int)<=j1/\j1<(q.length:Int))/\
        rng (j1-1)/\
        next1 ((j1-1),u2,(cJ q j1 (IntKind.wrap .u32 guess1))))
      (dO q λq1=>
      oC u1 n λr6=>
      dO r6 λr7=>
      Q q1 r7 none))))
def rJ (a:List Int) (b:List Int) (Q:List Int->Prop):Prop:=
 dO a λa1=>
 dO b λb1=>
 bX (σ:=(List Int)×(List Int)) (a1,b1) λ⟨a2,b2⟩ next1=>
  aG (decide (0<(b2.length:Int)))
   (nT a2 b2 λ_ r1 _=>
   next1 (b2,r1))
   (Q a2)
def iS (a:List Int) (b:List Int) (Q:List Int->Prop):Prop:=
 rng ((a.length:Int)+(b.length:Int))/\
 tH 4 ((a.length:Int)+(b.length:Int)) ((a.length:Int)+(b.length:Int))/\
 bX (σ:=Int×(List Int)) (0,(dA ((a.length:Int)+(b.length:Int)) 0)) λ⟨x,out⟩ next1=>
  aG (decide (x<(a.length:Int)))
   (((0:Int)<=x/\x<(a.length:Int))/\
   bX (σ:=Int×Int×(List Int)) (0,0,out) λ⟨carry,x1,out1⟩ next2=>
    aG (decide (x1<(b.length:Int)))
     (((0:Int)<=x1/\x1<(b.length:Int))/\
     rng (x+x1)/\
     ((0:Int)<=(x+x1)/\(x+x1)<(out1.length:Int))/\
     sZ (IntKind.wrap .u64 (carry+(IntKind.wrap .u64 ((IntKind.wrap .u64 ((IntKind.wrap .u64 (at' a x))*(IntKind.wrap .u64 (at' b x1))))+(IntKind.wrap .u64 (at' out1 (x+x1))))))) λcarry1=>
     rng (x+x1)/\
     ((0:Int)<=(x+x1)/\(x+x1)<(out1.length:Int))/\
     rng (x1+1)/\
     next2 ((carry1 / 2^(Int.toNat 32)),(x1+1),(cJ out1 (x+x1) (IntKind.wrap .u32 carry1))))
     (rng (x+(b.length:Int))/\
     ((0:Int)<=(x+(b.length:Int))/\(x+(b.length:Int))<(out1.length:Int))/\
     rng (x+1)/\
     next1 ((x+1),(cJ out1 (x+(b.length:Int)) (IntKind.wrap .u32 carry)))))
   (dO out λr=>
   Q r)
def uI (a:List Int) (Q:Int->Prop):Prop:=
 rng ((a.length:Int)-1)/\
 bX (σ:=Int) ((a.length:Int)-1) λi next1=>
  aG (decide (0<=i))
   (((0:Int)<=i/\i<(a.length:Int))/\
   aG ((at' a i) != 0)
    (rng (32*i)/\
    ((0:Int)<=i/\i<(a.length:Int))/\
    mB (at' a i) λr=>
    rng ((32*i)+r)/\
    Q ((32*i)+r))
    (rng (i-1)/\
    next1 (i-1)))
   (Q 0)
def rK (a:List Int) (b:List Int) (Q:List Int->Prop):Prop:=
 rng ((max (a.length:Int) (b.length:Int))+1)/\
 tH 4 ((max (a.length:Int) (b.length:Int))+1) ((max (a.length:Int) (b.length:Int))+1)/\
 bX (σ:=Int×Int×(List Int)) (0,0,(dA ((max (a.length:Int) (b.length:Int))+1) 0)) λ⟨carry,x,out⟩ next1=>
  aG (decide (x<((Int.toNat ((max (a.length:Int) (b.length:Int))+1)):Int)))
   (fM a x λr=>
   fM b x λr1=>
   sZ (IntKind.wrap .u64 (carry+(IntKind.wrap .u64 (r+r1)))) λcarry1=>
   ((0:Int)<=x/\x<(out.length:Int))/\
   rng (x+1)/\
   next1 ((carry1 / 2^(Int.toNat 32)),(x+1),(cJ out x (IntKind.wrap .u32 carry1))))
   (dO out λr2=>
   Q r2)
def rI (a:List Int) (b:List Int) (Q:List Int->Option Int->Prop):Prop:=
 gQ a b λr=>
 aG (decide (r<0))
  (Q [] (some 3))
  (tH 4 (a.length:Int) (a.length:Int)/\
  bX (σ:=Int×Int×(List Int)) (0,0,(dA (a.length:Int) 0)) λ⟨borrow,x,out⟩ next1=>
   aG (decide (x<((Int.toNat (a.length:Int)):Int)))
    (fM a x λr1=>
    fM b x λr2=>
    sZ (IntKind.wrap .u64 ((IntKind.wrap .u64 (r1-r2))-borrow)) λd=>
    ((0:Int)<=x/\x<(out.length:Int))/\
    rng (x+1)/\
    next1 ((d / 2^(Int.toNat 63)),(x+1),(cJ out x (IntKind.wrap .u32 d))))
    (dO out λr3=>
    Q r3 none))
def pQ (a:List Int) (Q:Int->Prop):Prop:=
 bX (σ:=Int×Int) (0,0) λ⟨n,x⟩ next1=>
  aG (decide (x<(a.length:Int)))
   (((0:Int)<=x/\x<(a.length:Int))/\
   bX (σ:=Int×Int) (n,0) λ⟨n1,x1⟩ next2=>
    aG (decide (x1<32))
     (((0:Int)<=x1/\x1<=32)/\
     aG ((bits .and .u32 ((at' a x) / 2^(Int.toNat x1)) 1) == 1)
      (rng (32*x)/\
      rng ((32*x)+x1)/\
      rng (((32*x)+x1)+1)/\
      rng (x1+1)/\
      next2 ((((32*x)+x1)+1),(x1+1)))
      (rng (x1+1)/\
      next2 (n1,(x1+1))))
     (rng (x+1)/\
     next1 (n1,(x+1))))
   (Q n)
def fO (a:List Int) (Q:List Int->Prop):Prop:=
 gG (α:=Int) (λnext1=>
  bX (σ:=Int) (a.length:Int) λn1 next2=>
   aG (decide (0<n1))
    (rng (n1-1)/\
    ((0:Int)<=(n1-1)/\(n1-1)<(a.length:Int))/\
    aG ((at' a (n1-1)) == 0)
     (rng (n1-1)/\
     next2 (n1-1))
     (next1 n1))
    (next1 n1))
  λn=>
  ((0:Int)<=0/\0<=n/\n<=(a.length:Int))/\
  (([]++(dW a 0 n)).length*4<=140737488355328)/\
  Q ([]++(dW a 0 n))
def eG (a:List Int) (i:Int) (Q:Int->Prop):Prop:=
 aG (decide (i<(a.length:Int)))
  (((0:Int)<=i/\i<(a.length:Int))/\
  Q (IntKind.wrap .u64 (at' a i)))
  (Q 0)
def mJ (a:List Int) (b:List Int) (Q:List Int->Prop):Prop:=
 rng ((a.length:Int)+(b.length:Int))/\
 rng (((a.length:Int)+(b.length:Int))+1)/\
 tH 4 (((a.length:Int)+(b.length:Int))+1) (((a.length:Int)+(b.length:Int))+1)/\
 bX (σ:=Int×(List Int)) (0,(dA (((a.length:Int)+(b.length:Int))+1) 0)) λ⟨x,out⟩ next1=>
  aG (decide (x<(a.length:Int)))
   (((0:Int)<=x/\x<(a.length:Int))/\
   rng ((b.length:Int)+1)/\
   bX (σ:=Int×Int×(List Int)) (0,0,out) λ⟨carry,x1,out1⟩ next2=>
    aG (decide (x1<((b.length:Int)+1)))
     (iH (eG b x1) λr=>
     rng (x+x1)/\
     ((0:Int)<=(x+x1)/\(x+x1)<(out1.length:Int))/\
     rng (x+x1)/\
     ((0:Int)<=(x+x1)/\(x+x1)<(out1.length:Int))/\
     sZ ((IntKind.wrap .u64 ((IntKind.wrap .u64 ((IntKind.wrap .u64 ((IntKind.wrap .u64 (at' a x))*r))+(IntKind.wrap .u64 (at' out1 (x+x1)))))+carry)) / 2^(Int.toNat 32)) λcarry1=>
     rng (x1+1)/\
     next2 (carry1,(x1+1),(cJ out1 (x+x1) (IntKind.wrap .u32 (IntKind.wrap .u64 ((IntKind.wrap .u64 ((IntKind.wrap .u64 ((IntKind.wrap .u64 (at' a x))*r))+(IntKind.wrap .u64 (at' out1 (x+x1)))))+carry))))))
     (rng (x+1)/\
     next1 ((x+1),out1)))
   (fO out λr1=>
   Q r1)
def oV (a:List Int) (b:List Int) (Q:Int->Prop):Prop:=
 rng ((max (a.length:Int) (b.length:Int))-1)/\
 sZ ((max (a.length:Int) (b.length:Int))-1) λi=>
 bX (σ:=Int) i λi1 next1=>
  aG (decide (0<=i1))
   (eG a i1 λr=>
   eG b i1 λr1=>
   aG (decide (r<r1))
    (Q (-1))
    (eG a i1 λr2=>
    eG b i1 λr3=>
    aG (decide (r3<r2))
     (Q 1)
     (rng (i1-1)/\
     next1 (i1-1))))
   (Q 0)
def rT (a:List Int) (b:List Int) (Q:List Int->Int->Prop):Prop:=
 oV a b λr=>
 aG (decide (r<0))
  (Q [] 3)
  (bX (σ:=Int×Int×(List Int)) (0,0,[]) λ⟨borrow,x,out⟩ next1=>
   aG (decide (x<(a.length:Int)))
    (eG a x λr1=>
    eG b x λr2=>
    sZ (IntKind.wrap .u64 ((IntKind.wrap .u64 (r1-r2))-borrow)) λs=>
    ((out++[(IntKind.wrap .u32 s)]).length*4<=140737488355328)/\
    rng (x+1)/\
    next1 ((s / 2^(Int.toNat 63)),(x+1),(out++[(IntKind.wrap .u32 s)])))
    (fO out λr3=>
    Q r3 0))
def yE (a:List Int) (s:Int) (Q:List Int->Prop):Prop:=
 bX (σ:=Int×Int×(List Int)) (0,0,[]) λ⟨carry,x,out⟩ next1=>
  aG (decide (x<(a.length:Int)))
   (((0:Int)<=x/\x<(a.length:Int))/\
   ((0:Int)<=s/\s<=64)/\
   sZ (bits .or .u64 carry (IntKind.wrap .u64 ((IntKind.wrap .u64 (at' a x))*2^(Int.toNat s)))) λcarry1=>
   ((out++[(IntKind.wrap .u32 carry1)]).length*4<=140737488355328)/\
   rng (x+1)/\
   next1 ((carry1 / 2^(Int.toNat 32)),(x+1),(out++[(IntKind.wrap .u32 carry1)])))
   (((out++[(IntKind.wrap .u32 carry)]).length*4<=140737488355328)/\
   fO (out++[(IntKind.wrap .u32 carry)]) λr=>
   Q r)
def tE (a:List Int) (s:Int) (Q:List Int->Prop):Prop:=
 bX (σ:=Int×(List Int)) (0,[]) λ⟨x,out⟩ next1=>
  aG (decide (x<(a.length:Int)))
   (eG a x λr=>
   rng (x+1)/\
   eG a (x+1) λr1=>
   ((0:Int)<=s/\s<=64)/\
   ((out++[(IntKind.wrap .u32 ((bits .or .u64 r (IntKind.wrap .u64 (r1*2^(Int.toNat 32)))) / 2^(Int.toNat s)))]).length*4<=140737488355328)/\
   rng (x+1)/\
   next1 ((x+1),(out++[(IntKind.wrap .u32 ((bits .or .u64 r (IntKind.wrap .u64 (r1*2^(Int.toNat 32)))) / 2^(Int.toNat s)))])))
   (fO out λr2=>
   Q r2)
def rU (a:List Int) (b:List Int) (Q:List Int->List Int->Int->Prop):Prop:=
 fO b λb1=>
 aG ((b1.length:Int) == 0)
  (Q [] [] 8)
  (bX (σ:=Int) 0 λs next1=>
   rng ((b1.length:Int)-1)/\
   ((0:Int)<=((b1.length:Int)-1)/\((b1.length:Int)-1)<(b1.length:Int))/\
   ((0:Int)<=s/\s<=32)/\
   aG ((bits .and .u32 (IntKind.wrap .u32 ((at' b1 ((b1.length:Int)-1))*2^(Int.toNat s))) 2147483648) == 0)
    (rng (s+1)/\
    next1 (s+1))
    (yE a s λa1=>
    yE b1 s λb2=>
    tH 4 (a1.length:Int) (a1.length:Int)/\
    rng ((a1.length:Int)-(b1.length:Int))/\
    rng (((a1.length:Int)-(b1.length:Int))+1)/\
    ((0:Int)<=(max 0 (((a1.length:Int)-(b1.length:Int))+1))/\(max 0 (((a1.length:Int)-(b1.length:Int))+1))<=(a1.length:Int)/\(a1.length:Int)<=(a1.length:Int))/\
    (([]++(dW a1 (max 0 (((a1.length:Int)-(b1.length:Int))+1)) (a1.length:Int))).length*4<=140737488355328)/\
    rng ((a1.length:Int)-(b1.length:Int))/\
    bX (σ:=(List Int)×Int×(List Int)) (([]++(dW a1 (max 0 (((a1.length:Int)-(b1.length:Int))+1)) (a1.length:Int))),((a1.length:Int)-(b1.length:Int)),(dA (a1.length:Int) 0)) λ⟨r,i,q⟩ next2=>
     aG (decide (0<=i))
      (((0:Int)<=i/\i<(a1.length:Int))/\
      (([(at' a1 i)]++r).length*4<=140737488355328)/\
      fO ([(at' a1 i)]++r) λr1=>
      eG r1 (b1.length:Int) λr2=>
      rng ((b1.length:Int)-1)/\
      eG r1 ((b1.length:Int)-1) λr3=>
      rng ((b1.length:Int)-1)/\
      eG b2 ((b1.length:Int)-1) λr4=>
      r4≠0/\
      sZ (min (IntKind.wrap .u64 (Int.tdiv (bits .or .u64 (IntKind.wrap .u64 (r2*2^(Int.toNat 32))) r3) r4)) 4294967295) λguess=>
      mJ b2 [(IntKind.wrap .u32 guess)] λp=>
      bX (σ:=Int×(List Int)) (guess,p) λ⟨guess1,p1⟩ next3=>
       oV p1 r1 λr5=>
       aG (decide (0<r5))
        (rT p1 b2 λr6 _=>
        next3 ((IntKind.wrap .u64 (guess1-1)),r6))
        (rT r1 p1 λr8 _=>
        ((0:Int)<=i/\i<(q.length:Int))/\
        rng (i-1)/\
        next2 (r8,(i-1),(cJ q i (IntKind.wrap .u32 guess1)))))
      (fO q λr10=>
      tE r s λr11=>
      Q r10 r11 0)))
def vK (a:List Int) (b:List Int) (Q:List Int->Prop):Prop:=
 fO a λa1=>
 fO b λb1=>
 bX (σ:=(List Int)×(List Int)) (a1,b1) λ⟨a2,b2⟩ next1=>
  aG (decide (0<(b2.length:Int)))
   (rU a2 b2 λ_ r1 _=>
   next1 (b2,r1))
   (Q a2)
def vL (a:List Int) (b:List Int) (Q:List Int->Prop):Prop:=
 rng ((max (a.length:Int) (b.length:Int))+1)/\
 bX (σ:=Int×Int×(List Int)) (0,0,[]) λ⟨carry,x,out⟩ next1=>
  aG (decide (x<((max (a.length:Int) (b.length:Int))+1)))
   (eG a x λr=>
   eG b x λr1=>
   sZ (IntKind.wrap .u64 ((IntKind.wrap .u64 (r+r1))+carry)) λs=>
   ((out++[(IntKind.wrap .u32 s)]).length*4<=140737488355328)/\
   rng (x+1)/\
   next1 ((s / 2^(Int.toNat 32)),(x+1),(out++[(IntKind.wrap .u32 s)])))
   (fO out λr2=>
   Q r2)
end Go.Gg
namespace Go.Gg
def tL (a:List Int) (b:List Int) (Q:Bool->Prop):Prop:=
 aG ((a.length:Int) != (b.length:Int))
  (Q false)
  (bX (σ:=Int) 0 λx next1=>
   aG (decide (x<(a.length:Int)))
    (((0:Int)<=x/\x<(a.length:Int))/\
    ((0:Int)<=x/\x<(b.length:Int))/\
    aG ((at' a x) != (at' b x))
     (Q false)
     (rng (x+1)/\
     next1 (x+1)))
    (Q true))
def yV (a:GRat) (b:GRat) (Q:Bool->Prop):Prop:=
 aG (a.Neg == b.Neg)
  (tL a.Num b.Num λr=>
  aG r
   (tL a.Den b.Den λr1=>
   Q r1)
   (Q false))
  (Q false)
def vW (a:List GRat) (b:List GRat) (Q:Bool->Prop):Prop:=
 aG ((a.length:Int) != (b.length:Int))
  (Q false)
  (bX (σ:=Int) 0 λx next1=>
   aG (decide (x<(a.length:Int)))
    (((0:Int)<=x/\x<(a.length:Int))/\
    ((0:Int)<=x/\x<(b.length:Int))/\
    iH (yV (at' a x) (at' b x)) λr=>
    aG (!r)
     (Q false)
     (rng (x+1)/\
     next1 (x+1)))
    (Q true))
def pR (Q:List Int->Prop):Prop:=
 Q [1]
def nA (a:List Int) (Q:Bool->Prop):Prop:=
 aG (decide (0<(a.length:Int)))
  (rng ((a.length:Int)-1)/\
  ((0:Int)<=((a.length:Int)-1)/\((a.length:Int)-1)<(a.length:Int))/\
  Q ((at' a ((a.length:Int)-1)) != 0))
  (Q false)
def nB (a:GRat) (Q:Bool->Prop):Prop:=
 gG (α:=Bool) (λnext1=>
  aG ((a.Num.length:Int) == 0)
   (next1 ((a.Den.length:Int) == 0))
   (next1 false))
  λx=>
  aG x
   (Q (!a.Neg))
   (nA a.Num λr=>
   aG r
    (nA a.Den λr1=>
    aG r1
     (rJ a.Num a.Den λr2=>
     pR λr3=>
     gQ r2 r3 λr4=>
     Q (r4 == 0))
     (Q false))
    (Q false))
def gJ (a:GRat) (Q:Bool->List Int->List Int->Prop):Prop:=
 gG (α:=Bool) (λnext1=>
  nB a λr1=>
  aG (!r1)
   (next1 true)
   (next1 ((a.Num.length:Int) == 0)))
  λx=>
  aG x
   (pR λr=>
   Q false [] r)
   (Q a.Neg a.Num a.Den)
def fP (neg:Bool) (num:List Int) (den:List Int) (Q:GRat->Prop):Prop:=
 uI num λr=>
 aG (r == 0)
  (Q (⟨false,[],[]⟩:GRat))
  (rJ num den λg2=>
  nT num g2 λr1 _ _=>
  nT den g2 λr4 _ _=>
  Q (⟨neg,r1,r4⟩:GRat))
def gV (a:GRat) (b:GRat) (Q:GRat->Prop):Prop:=
 gJ a λr r1 r2=>
 gJ b λr3 r4 r5=>
 iS r1 r5 λp=>
 iS r4 r2 λq=>
 iS r2 r5 λden=>
 aG (r == r3)
  (rK p q λr6=>
  fP r r6 den λr7=>
  Q r7)
  (gQ p q λr8=>
  aG (decide (0<=r8))
   (rI p q λr9 _=>
   fP r r9 den λr11=>
   Q r11)
   (rI q p λr12 _=>
   fP r3 r12 den λr14=>
   Q r14))
def uE (a:GRat) (Q:GRat->Prop):Prop:=
 gJ a λr r1 r2=>
 fP (!r) r1 r2 λr3=>
 Q r3
def kF (a:GRat) (b:GRat) (Q:GRat->Prop):Prop:=
 iH (uE b) λr=>
 iH (gV a r) λr1=>
 Q r1
def sF (n:Int) (Q:List Int->Prop):Prop:=
 aG (n == (-9223372036854775808))
  (Q [0,2147483648])
  (rng (-n)/\
  tG (max n (-n)) λr=>
  Q r)
def iR (n:Int) (Q:GRat->Prop):Prop:=
 sF n λr=>
 pR λr1=>
 fP (decide (n<0)) r r1 λr2=>
 Q r2
def gU (a:GRat) (b:GRat) (Q:GRat->Prop):Prop:=
 gJ a λr r1 r2=>
 gJ b λr3 r4 r5=>
 iS r1 r4 λr6=>
 iS r2 r5 λr7=>
 fP (r != r3) r6 r7 λr8=>
 Q r8
def nY (a:GRat) (Q:Bool->Prop):Prop:=
 nB a λr=>
 aG r
  (aG (!a.Neg)
   (gQ a.Num a.Den λr1=>
   Q (decide (r1<=0)))
   (Q false))
  (Q false)
def kV (neg:Bool) (num:List Int) (den:List Int) (Q:GRat->Int->Prop):Prop:=
 pQ den λr=>
 aG (r == 0)
  (Q (⟨false,[],[]⟩:GRat) 8)
  (pQ num λr1=>
  aG (r1 == 0)
   (Q (⟨false,[],[]⟩:GRat) 0)
   (vK num den λg2=>
   rU num g2 λr2 _ _=>
   rU den g2 λr5 _ _=>
   Q (⟨neg,r2,r5⟩:GRat) 0))
def tB (n:Int) (Q:List Int->Prop):Prop:=
 gG (α:=Int) (λnext1=>
  aG (decide (n<0))
   (sZ (IntKind.wrap .u64 (0-(IntKind.wrap .u64 n))) λu1=>
   next1 u1)
   (next1 (IntKind.wrap .u64 n)))
  λu=>
  Q [(IntKind.wrap .u32 u),(IntKind.wrap .u32 (u / 2^(Int.toNat 32)))]
def tD (n:Int) (d:Int) (Q:GRat->Int->Prop):Prop:=
 tB n λr=>
 tB d λr1=>
 kV ((decide (n<0)) != (decide (d<0))) r r1 λr2 r3=>
 Q r2 r3
def yD (n:Int) (Q:GRat->Prop):Prop:=
 tD n 1 λr _=>
 Q r
def nQ (a:GRat) (Q:Bool->Prop):Prop:=
 gG (α:=Bool) (λnext1=>
  aG ((a.Num.length:Int) == 0)
   (next1 true)
   (next1 ((a.Den.length:Int) == 0)))
  λx=>
  aG x
   (aG ((a.Num.length:Int) == 0)
    (aG ((a.Den.length:Int) == 0)
     (Q (!a.Neg))
     (Q false))
    (Q false))
   (rng ((a.Num.length:Int)-1)/\
   ((0:Int)<=((a.Num.length:Int)-1)/\((a.Num.length:Int)-1)<(a.Num.length:Int))/\
   aG ((at' a.Num ((a.Num.length:Int)-1)) != 0)
    (rng ((a.Den.length:Int)-1)/\
    ((0:Int)<=((a.Den.length:Int)-1)/\((a.Den.length:Int)-1)<(a.Den.length:Int))/\
    aG ((at' a.Den ((a.Den.length:Int)-1)) != 0)
     (vK a.Num a.Den λr=>
     pQ r λr1=>
     Q (r1 == 1))
     (Q false))
    (Q false))
def lP (a:GRat) (Q:Bool->List Int->List Int->Prop):Prop:=
 gG (α:=Bool) (λnext1=>
  nQ a λr=>
  aG (!r)
   (next1 true)
   (next1 ((a.Num.length:Int) == 0)))
  λx=>
  aG x
   (Q false [] [1])
   (Q a.Neg a.Num a.Den)
def kU (a:GRat) (Q:Int->Prop):Prop:=
 lP a λr r1 _=>
 aG ((r1.length:Int) == 0)
  (Q 0)
  (aG r
   (Q (-1))
   (Q 1))
def oU (a:GRat) (b:GRat) (Q:GRat->Prop):Prop:=
 lP a λr r1 r2=>
 lP b λr3 r4 r5=>
 mJ r1 r5 λx=>
 mJ r4 r2 λy1=>
 mJ r2 r5 λden=>
 aG (r == r3)
  (vL x y1 λr6=>
  kV r r6 den λr7 _=>
  Q r7)
  (gG (α:=Bool×(List Int)×(List Int)) (λnext1=>
   oV x y1 λr13=>
   aG (decide (r13<0))
    (next1 (r3,y1,x))
    (next1 (r,x,y1)))
   λ⟨s,x1,y2⟩=>
   rT x1 y2 λr9 _=>
   kV s r9 den λr11 _=>
   Q r11)
def aAd (a:GRat) (Q:GRat->Prop):Prop:=
 lP a λr r1 r2=>
 kV (!r) r1 r2 λr3 _=>
 Q r3
def aAb (a:GRat) (b:GRat) (Q:GRat->Prop):Prop:=
 iH (aAd b) λr=>
 iH (oU a r) λr1=>
 Q r1
def kO (a:GRat) (b:GRat) (Q:Int->Prop):Prop:=
 aAb a b λr=>
 kU r λr1=>
 Q r1
def tC (a:GRat) (Q:Bool->Prop):Prop:=
 iH (nQ a) λr=>
 aG r
  (iH (kU a) λr1=>
  aG (decide (0<=r1))
   (iH (yD 1) λr2=>
   iH (kO a r2) λr3=>
   Q (decide (r3<=0)))
   (Q false))
  (Q false)
end Go.Gg
namespace Go.Gg
def nM (kind:Int) (n:Int) (Q:Bool->Prop):Prop:=
 aG (kind == 0)
  (Q (n == 0))
  (aG (kind == 1)
   (Q (n == 1))
   (aG (decide (1<=n))
    (Q (decide (n<=16)))
    (Q false)))
def nL (f:GFormula) (i:Int) (Q:Option Int->Prop):Prop:=
 ((0:Int)<=i/\i<(f.Nodes.length:Int))/\
 gG (α:=Bool) (λnext5=>
  aG (decide ((at' f.Nodes i).Kind<0))
   (next5 true)
   (next5 (decide (5<(at' f.Nodes i).Kind))))
  λx=>
  aG x
   (Q (some 7))
   (nM ((at' f.Nodes i).Kind) (((at' f.Nodes i).Args).length:Int) λr=>
   aG (!r)
    (Q (some 11))
    (bX (σ:=Int) 0 λx1 next1=>
     aG (decide (x1<(((at' f.Nodes i).Args).length:Int)))
      (((0:Int)<=x1/\x1<(((at' f.Nodes i).Args).length:Int))/\
      gG (α:=Bool) (λnext2=>
       aG (decide ((at' ((at' f.Nodes i).Args) x1)<0))
        (next2 true)
        (rng (f.Vars+i)/\
        next2 (decide ((f.Vars+i)<=(at' ((at' f.Nodes i).Args) x1)))))
       λx2=>
       aG x2
        (Q (some 10))
        (rng (x1+1)/\
        next1 (x1+1)))
      (aG ((at' f.Nodes i).Kind == 0)
       (gG (α:=Bool) (λnext3=>
        aG ((at' f.Nodes i).K != 0)
         (next3 ((at' f.Nodes i).K != 1))
         (next3 false))
        λx3=>
        aG x3
         (Q (some 3))
         (Q none))
       (aG ((at' f.Nodes i).Kind == 4)
        (gG (α:=Bool) (λnext4=>
         aG (decide ((at' f.Nodes i).K<1))
          (next4 true)
          (next4 (decide ((((at' f.Nodes i).Args).length:Int)<(at' f.Nodes i).K))))
         λx4=>
         aG x4
          (Q (some 3))
          (Q none))
        (aG ((at' f.Nodes i).K != 0)
         (Q (some 2))
         (Q none))))))
def sP (f:GFormula) (arg:Int) (Q:Bool->Prop):Prop:=
 aG (decide (0<=f.Vars))
  (aG (decide (0<=arg))
   (aG (decide (arg<f.Vars))
    (Q true)
    (rng (arg-f.Vars)/\
    Q (decide ((arg-f.Vars)<(f.Nodes.length:Int)))))
   (Q false))
  (Q false)
def gC (f:GFormula) (Q:Option Int->Prop):Prop:=
 gG (α:=Bool) (λnext2=>
  aG (decide (f.Vars<0))
   (next2 true)
   (next2 (decide (24<f.Vars))))
  λx=>
  aG x
   (Q (some 3))
   (aG (decide (128<(f.Nodes.length:Int)))
    (Q (some 4))
    (bX (σ:=Int) 0 λx1 next1=>
     aG (decide (x1<(f.Nodes.length:Int)))
      (nL f x1 λe=>
      aG (Option.isSome e)
       (Q e)
       (rng (x1+1)/\
       next1 (x1+1)))
      (sP f f.Top λr=>
      aG (!r)
       (Q (some 10))
       (Q none))))
def yC (f:GFormula) (i:Int) (Q:Int->Prop):Prop:=
 ((0:Int)<=i/\i<(f.Nodes.length:Int))/\
 gG (α:=Int×Int) (λnext2=>
  aG ((at' f.Nodes i).Kind == 0)
   (next2 (0,0))
   (aG ((at' f.Nodes i).Kind == 1)
    (next2 (1,1))
    (aG ((at' f.Nodes i).Kind == 2)
     (next2 (1,16))
     (aG ((at' f.Nodes i).Kind == 3)
      (next2 (1,16))
      (aG ((at' f.Nodes i).Kind == 4)
       (next2 (1,16))
       (aG ((at' f.Nodes i).Kind == 5)
        (next2 (1,16))
        (Q 7)))))))
  λ⟨least,most⟩=>
  aG (decide ((((at' f.Nodes i).Args).length:Int)<least))
   (Q 11)
   (aG (decide (most<(((at' f.Nodes i).Args).length:Int)))
    (Q 11)
    (bX (σ:=Int) 0 λx next1=>
     aG (decide (x<(((at' f.Nodes i).Args).length:Int)))
      (((0:Int)<=x/\x<(((at' f.Nodes i).Args).length:Int))/\
      aG (decide ((at' ((at' f.Nodes i).Args) x)<0))
       (Q 10)
       (rng (f.Vars+i)/\
       aG (decide ((f.Vars+i)<=(at' ((at' f.Nodes i).Args) x)))
        (Q 10)
        (rng (x+1)/\
        next1 (x+1))))
      (aG ((at' f.Nodes i).Kind == 0)
       (aG ((at' f.Nodes i).K != 0)
        (aG ((at' f.Nodes i).K != 1)
         (Q 3)
         (Q 0))
        (Q 0))
       (aG ((at' f.Nodes i).Kind == 4)
        (aG (decide ((at' f.Nodes i).K<1))
         (Q 3)
         (aG (decide ((((at' f.Nodes i).Args).length:Int)<(at' f.Nodes i).K))
          (Q 3)
          (Q 0)))
        (aG ((at' f.Nodes i).K != 0)
         (Q 2)
         (Q 0))))))
def wJ (f:GFormula) (arg:Int) (Q:Bool->Prop):Prop:=
 aG (decide (0<=f.Vars))
  (aG (decide (0<=arg))
   (aG (decide (arg<f.Vars))
    (Q true)
    (rng (arg-f.Vars)/\
    Q (decide ((arg-f.Vars)<(f.Nodes.length:Int)))))
   (Q false))
  (Q false)
def wK (f:GFormula) (Q:Int->Prop):Prop:=
 aG (decide (f.Vars<0))
  (Q 3)
  (aG (decide (24<f.Vars))
   (Q 3)
   (aG (decide (128<(f.Nodes.length:Int)))
    (Q 4)
    (bX (σ:=Int) 0 λx next1=>
     aG (decide (x<(f.Nodes.length:Int)))
      (yC f x λe=>
      aG (e != 0)
       (Q e)
       (rng (x+1)/\
       next1 (x+1)))
      (wJ f f.Top λr=>
      aG (!r)
       (Q 10)
       (Q 0)))))
def sN (f:GFormula) (failed:Int) (Q:Option Int->Prop):Prop:=
 gC f λe=>
 aG (Option.isSome e)
  (Q e)
  (gG (α:=Bool) (λnext1=>
   aG (decide (failed<0))
    (next1 true)
    ((((0:Int)<=f.Vars/\f.Vars<=64)/\rng (1*2^(Int.toNat f.Vars)))/\
    next1 (decide ((1*2^(Int.toNat f.Vars))<=failed))))
   λx=>
   aG x
    (Q (some 3))
    (Q none))
def qT (f:GFormula) (failed:Int) (Q:List Bool->Prop):Prop:=
 rng (f.Vars+(f.Nodes.length:Int))/\
 tH 1 f.Vars (f.Vars+(f.Nodes.length:Int))/\
 bX (σ:=Int×(List Bool)) (0,(dA f.Vars false)) λ⟨x,v⟩ next1=>
  aG (decide (x<((Int.toNat f.Vars):Int)))
   (((0:Int)<=x/\x<=64)/\
   ((0:Int)<=x/\x<(v.length:Int))/\
   rng (x+1)/\
   next1 ((x+1),(cJ v x ((bits .and .i64 (failed / 2^(Int.toNat x)) 1) == 1))))
   (bX (σ:=Int×(List Bool)) (0,v) λ⟨x1,v1⟩ next2=>
    aG (decide (x1<(f.Nodes.length:Int)))
     (((0:Int)<=x1/\x1<(f.Nodes.length:Int))/\
     bX (σ:=Int×Int) (0,0) λ⟨n,x2⟩ next3=>
      aG (decide (x2<(((at' f.Nodes x1).Args).length:Int)))
       (((0:Int)<=x2/\x2<(((at' f.Nodes x1).Args).length:Int))/\
       ((0:Int)<=(at' ((at' f.Nodes x1).Args) x2)/\(at' ((at' f.Nodes x1).Args) x2)<(v1.length:Int))/\
       aG (at' v1 (at' ((at' f.Nodes x1).Args) x2))
        (rng (n+1)/\
        rng (x2+1)/\
        next3 ((n+1),(x2+1)))
        (rng (x2+1)/\
        next3 (n,(x2+1))))
       (gG (α:=Bool) (λnext4=>
        aG ((at' f.Nodes x1).Kind == 0)
         (next4 ((at' f.Nodes x1).K == 1))
         (aG ((at' f.Nodes x1).Kind == 1)
          (next4 (n == 0))
          (aG ((at' f.Nodes x1).Kind == 2)
           (next4 (n == (((at' f.Nodes x1).Args).length:Int)))
           (aG ((at' f.Nodes x1).Kind == 3)
            (next4 (decide (0<n)))
            (aG ((at' f.Nodes x1).Kind == 4)
             (next4 (decide ((at' f.Nodes x1).K<=n)))
             (aG ((at' f.Nodes x1).Kind == 5)
              (next4 ((Int.tmod n 2) == 1))
              (next4 false)))))))
        λis=>
        ((v1++[is]).length*1<=140737488355328)/\
        rng (x1+1)/\
        next2 ((x1+1),(v1++[is]))))
     (Q v1))
def sO (f:GFormula) (failed:Int) (Q:Bool->Option Int->Prop):Prop:=
 sN f failed λe=>
 aG (Option.isSome e)
  (Q false e)
  (iH (qT f failed) λr=>
  ((0:Int)<=f.Top/\f.Top<(r.length:Int))/\
  Q (at' r f.Top) none)
def oF (f:GFormula) (Q:List Bool->Prop):Prop:=
 rng (f.Vars+(f.Nodes.length:Int))/\
 tH 1 (f.Vars+(f.Nodes.length:Int)) (f.Vars+(f.Nodes.length:Int))/\
 ((0:Int)<=f.Top/\f.Top<((Int.toNat (f.Vars+(f.Nodes.length:Int))):Int))/\
 rng ((f.Nodes.length:Int)-1)/\
 bX (σ:=Int×(List Bool)) (((f.Nodes.length:Int)-1),(cJ (dA (f.Vars+(f.Nodes.length:Int)) false) f.Top true)) λ⟨i,mark⟩ next1=>
  aG (decide (0<=i))
   (rng (f.Vars+i)/\
   ((0:Int)<=(f.Vars+i)/\(f.Vars+i)<(mark.length:Int))/\
   aG (at' mark (f.Vars+i))
    (((0:Int)<=i/\i<(f.Nodes.length:Int))/\
    bX (σ:=Int×(List Bool)) (0,mark) λ⟨x,mark1⟩ next2=>
     aG (decide (x<(((at' f.Nodes i).Args).length:Int)))
      (((0:Int)<=x/\x<(((at' f.Nodes i).Args).length:Int))/\
      ((0:Int)<=(at' ((at' f.Nodes i).Args) x)/\(at' ((at' f.Nodes i).Args) x)<(mark1.length:Int))/\
      rng (x+1)/\
      next2 ((x+1),(cJ mark1 (at' ((at' f.Nodes i).Args) x) true)))
      (rng (i-1)/\
      next1 ((i-1),mark1)))
    (rng (i-1)/\
    next1 ((i-1),mark)))
   (Q mark)
def uK (f:GFormula) (Q:GFormula->Option Int->Prop):Prop:=
 gC f λe=>
 aG (Option.isSome e)
  (Q (⟨0,[],0⟩:GFormula) e)
  (rng (f.Vars+(f.Nodes.length:Int))/\
  tH 8 (f.Vars+(f.Nodes.length:Int)) (f.Vars+(f.Nodes.length:Int))/\
  bX (σ:=Int×(List Int)) (0,(dA (f.Vars+(f.Nodes.length:Int)) 0)) λ⟨x,to⟩ next1=>
   aG (decide (x<f.Vars))
    (((0:Int)<=x/\x<(to.length:Int))/\
    rng (x+1)/\
    next1 ((x+1),(cJ to x x)))
    (iH (oF f) λr=>
    ((0:Int)<=f.Vars/\f.Vars<=(r.length:Int)/\(r.length:Int)<=(r.length:Int))/\
    bX (σ:=Int×(List Int)×(List GNode)) (0,to,[]) λ⟨x1,to1,x2⟩ next2=>
     aG (decide (x1<((dW r f.Vars (r.length:Int)).length:Int)))
      (((0:Int)<=x1/\x1<((dW r f.Vars (r.length:Int)).length:Int))/\
      aG (!(at' (dW r f.Vars (r.length:Int)) x1))
       (rng (x1+1)/\
       next2 ((x1+1),to1,x2))
       (((0:Int)<=x1/\x1<(f.Nodes.length:Int))/\
       bX (σ:=Int×(List Int)) (0,[]) λ⟨x3,x4⟩ next3=>
        aG (decide (x3<(((at' f.Nodes x1).Args).length:Int)))
         (((0:Int)<=x3/\x3<(((at' f.Nodes x1).Args).length:Int))/\
         ((0:Int)<=(at' ((at' f.Nodes x1).Args) x3)/\(at' ((at' f.Nodes x1).Args) x3)<(to1.length:Int))/\
         ((x4++[(at' to1 (at' ((at' f.Nodes x1).Args) x3))]).length*8<=140737488355328)/\
         rng (x3+1)/\
         next3 ((x3+1),(x4++[(at' to1 (at' ((at' f.Nodes x1).Args) x3))])))
         (rng (f.Vars+x1)/\
         rng (f.Vars+(x2.length:Int))/\
         ((0:Int)<=(f.Vars+x1)/\(f.Vars+x1)<(to1.length:Int))/\
         ((x2++[(⟨(at' f.Nodes x1).Kind,(at' f.Nodes x1).K,x4⟩:GNode)]).length*40<=140737488355328)/\
         rng (x1+1)/\
         next2 ((x1+1),(cJ to1 (f.Vars+x1) (f.Vars+(x2.length:Int))),(x2++[(⟨(at' f.Nodes x1).Kind,(at' f.Nodes x1).K,x4⟩:GNode)])))))
      (((0:Int)<=f.Top/\f.Top<(to1.length:Int))/\
      Q (⟨f.Vars,x2,(at' to1 f.Top)⟩:GFormula) none)))
def uL (f:GFormula) (Q:Int->Int->Option Int->Prop):Prop:=
 gC f λe=>
 aG (Option.isSome e)
  (Q 0 0 e)
  (iH (oF f) λr=>
  ((0:Int)<=f.Vars/\f.Vars<=(r.length:Int)/\(r.length:Int)<=(r.length:Int))/\
  bX (σ:=Int×Int×Int) (0,0,0) λ⟨nodes,args,x⟩ next1=>
   aG (decide (x<((dW r f.Vars (r.length:Int)).length:Int)))
    (((0:Int)<=x/\x<((dW r f.Vars (r.length:Int)).length:Int))/\
    aG (at' (dW r f.Vars (r.length:Int)) x)
     (rng (nodes+1)/\
     ((0:Int)<=x/\x<(f.Nodes.length:Int))/\
     rng (args+(((at' f.Nodes x).Args).length:Int))/\
     sZ (args+(((at' f.Nodes x).Args).length:Int)) λargs1=>
     rng (x+1)/\
     next1 ((nodes+1),args1,(x+1)))
     (rng (x+1)/\
     next1 (nodes,args,(x+1))))
    (Q nodes args none))
end Go.Gg
namespace Go.Gg
def eZ:Nat->Int->Int->(List GNode)->Int->(List Int)->(List Bool)->(List Int->List Bool->Prop)->Prop
 | 0,_,_,_,_,_,_,_=>False
 | fu+1,arg,Formula,w,w1,events,seen,Q=>
  ((0:Int)<=arg/\arg<(seen.length:Int))/\
  aG (at' seen arg)
   (Q events seen)
   (((0:Int)<=arg/\arg<(seen.length:Int))/\
   aG (decide (arg<Formula))
    (((events++[arg]).length*8<=140737488355328)/\
    Q (events++[arg]) (cJ seen arg true))
    (rng (arg-Formula)/\
    ((0:Int)<=(arg-Formula)/\(arg-Formula)<(w.length:Int))/\
    bX (σ:=Int×(List Int)×(List Bool)) (0,events,(cJ seen arg true)) λ⟨x,x1,x2⟩ next1=>
     aG (decide (x<(((at' w (arg-Formula)).Args).length:Int)))
      (((0:Int)<=x/\x<(((at' w (arg-Formula)).Args).length:Int))/\
      eZ fu (at' ((at' w (arg-Formula)).Args) x) Formula w w1 x1 x2 λu u1=>
      u1.length=x2.length/\
      rng (x+1)/\
      next1 ((x+1),u,u1))
      (Q x1 x2)))
def wQ (f:GFormula) (Q:List Int->List Bool->Prop):Prop:=
 rng (f.Vars+(f.Nodes.length:Int))/\
 tH 1 (f.Vars+(f.Nodes.length:Int)) (f.Vars+(f.Nodes.length:Int))/\
 ∃fu,eZ fu f.Top f.Vars f.Nodes f.Top ([]:List Int) (dA (f.Vars+(f.Nodes.length:Int)) false) λu u1=>
 u1.length=(dA (f.Vars+(f.Nodes.length:Int)) false).length/\
 bX (σ:=Int×(List Int)) (0,u) λ⟨x,x1⟩ next1=>
  aG (decide (x<f.Vars))
   (((0:Int)<=x/\x<(u1.length:Int))/\
   aG (!(at' u1 x))
    (((x1++[x]).length*8<=140737488355328)/\
    rng (x+1)/\
    next1 ((x+1),(x1++[x])))
    (rng (x+1)/\
    next1 ((x+1),x1)))
   (Q x1 u1)
def wS (f:GFormula) (Q:List Int->Option Int->Prop):Prop:=
 gC f λerr=>
 aG (Option.isSome err)
  (Q [] err)
  (wQ f λr _=>
  Q r none)
def wT (o:List Int) (vars:Int) (Q:Option Int->Prop):Prop:=
 gG (α:=Bool) (λnext3=>
  aG (decide (vars<0))
   (next3 true)
   (next3 (decide (24<vars))))
  λx=>
  aG x
   (Q (some 3))
   (aG ((o.length:Int) != vars)
    (Q (some 11))
    (tH 1 vars vars/\
    bX (σ:=Int×(List Bool)) (0,(dA vars false)) λ⟨x1,seen⟩ next1=>
     aG (decide (x1<(o.length:Int)))
      (((0:Int)<=x1/\x1<(o.length:Int))/\
      gG (α:=Bool) (λnext2=>
       aG (decide ((at' o x1)<0))
        (next2 true)
        (next2 (decide (vars<=(at' o x1)))))
       λx2=>
       aG x2
        (Q (some 3))
        (((0:Int)<=(at' o x1)/\(at' o x1)<(seen.length:Int))/\
        aG (at' seen (at' o x1))
         (Q (some 6))
         (((0:Int)<=(at' o x1)/\(at' o x1)<(seen.length:Int))/\
         rng (x1+1)/\
         next1 ((x1+1),(cJ seen (at' o x1) true)))))
      (Q none)))
end Go.Gg
namespace Go.Gg
def qB (order:List Int) (Q:List Int->List Int->GMap Int->GMap Int->Prop):Prop:=
 (order.length*8<=140737488355328)/\
 tH 8 (order.length:Int) (order.length:Int)/\
 bX (σ:=Int×(List Int)) (0,(dA (order.length:Int) 0)) λ⟨x,x1⟩ next1=>
  aG (decide (x<(order.length:Int)))
   (((0:Int)<=x/\x<(order.length:Int))/\
   ((0:Int)<=(at' order x)/\(at' order x)<(x1.length:Int))/\
   rng (x+1)/\
   next1 ((x+1),(cJ x1 (at' order x) x)))
   (Q order x1 (nU:GMap Int) (nU:GMap Int))
def fC (v:Int) (lo:Int) (hi:Int) (_order:List Int) (_place:List Int) (nodes:List GDNode) (unique:GMap Int) (_memo:GMap Int) (Q:List GDNode->GMap Int->Int->Prop):Prop:=
 aG (lo == hi)
  (Q nodes unique lo)
  (aG (!(Option.isSome (eX unique [v,lo,hi])))
   (rng (2+(nodes.length:Int))/\
   ((nodes++[(⟨v,lo,hi⟩:GDNode)]).length*24<=140737488355328)/\
   Q (nodes++[(⟨v,lo,hi⟩:GDNode)]) (mput unique [v,lo,hi] (2+(nodes.length:Int))) (2+(nodes.length:Int)))
   (Q nodes unique (Option.getD (eX unique [v,lo,hi]) 0)))
def fT (i:Int) (order:List Int) (place:List Int) (nodes:List GDNode) (unique:GMap Int) (memo:GMap Int) (Q:List GDNode->GMap Int->Int->Prop):Prop:=
 fC i 0 1 order place nodes unique memo λu u1 r=>
 Q u u1 r
def cH (r:Int) (order:List Int) (place:List Int) (nodes:List GDNode) (_unique:GMap Int) (_memo:GMap Int) (Q:Int->Prop):Prop:=
 aG (decide (r<2))
  (Q (order.length:Int))
  (rng (r-2)/\
  ((0:Int)<=(r-2)/\(r-2)<(nodes.length:Int))/\
  ((0:Int)<=(at' nodes (r-2)).Var/\(at' nodes (r-2)).Var<(place.length:Int))/\
  Q (at' place ((at' nodes (r-2)).Var)))
def cT (r:Int) (level:Int) (order:List Int) (place:List Int) (nodes:List GDNode) (unique:GMap Int) (memo:GMap Int) (Q:Int->Int->Prop):Prop:=
 cH r order place nodes unique memo λr1=>
 aG (r1 != level)
  (Q r r)
  (rng (r-2)/\
  ((0:Int)<=(r-2)/\(r-2)<(nodes.length:Int))/\
  Q ((at' nodes (r-2)).Lo) ((at' nodes (r-2)).Hi))
def aR:Nat->Int->Int->Int->(List Int)->(List Int)->(List GDNode)->(GMap Int)->(GMap Int)->(List GDNode->GMap Int->GMap Int->Int->Prop)->Prop
 | 0,_,_,_,_,_,_,_,_,_=>False
 | fu+1,c,a,b,order,place,nodes,unique,memo,Q=>
  gG (α:=Unit) (λnext1=>
   gG (α:=Bool) (λnext2=>
    aG (c == 1)
     (next2 true)
     (next2 (a == b)))
    λx=>
    aG x
     (Q nodes unique memo a)
     (aG (c == 0)
      (Q nodes unique memo b)
      (aG (a == 1)
       (aG (b == 0)
        (Q nodes unique memo c)
        (next1 ()))
       (next1 ()))))
   λ_=>
   aG (Option.isSome (eX memo [c,a,b]))
    (Q nodes unique memo (Option.getD (eX memo [c,a,b]) 0))
    (cH c order place nodes unique memo λr=>
    cH a order place nodes unique memo λr1=>
    cH b order place nodes unique memo λr2=>
    cT c (min (min r r1) r2) order place nodes unique memo λr3 r4=>
    cT a (min (min r r1) r2) order place nodes unique memo λr5 r6=>
    cT b (min (min r r1) r2) order place nodes unique memo λr7 r8=>
    aR fu r3 r5 r7 order place nodes unique memo λu u1 u2 lo=>
    aR fu r4 r6 r8 order place u u1 u2 λu3 u4 u5 hi=>
    ((0:Int)<=(min (min r r1) r2)/\(min (min r r1) r2)<(order.length:Int))/\
    fC (at' order (min (min r r1) r2)) lo hi order place u3 u4 u5 λu6 u7 r9=>
    Q u6 u7 (mput u5 [c,a,b] r9) r9)
def gS (a:Int) (order:List Int) (place:List Int) (nodes:List GDNode) (unique:GMap Int) (memo:GMap Int) (Q:List GDNode->GMap Int->GMap Int->Int->Prop):Prop:=
 ∃fu,aR fu a 0 1 order place nodes unique memo λu u1 u2 r=>
 Q u u1 u2 r
def gT (a:Int) (b:Int) (order:List Int) (place:List Int) (nodes:List GDNode) (unique:GMap Int) (memo:GMap Int) (Q:List GDNode->GMap Int->GMap Int->Int->Prop):Prop:=
 ∃fu,aR fu a b 0 order place nodes unique memo λu u1 u2 r=>
 Q u u1 u2 r
def iC (a:Int) (b:Int) (order:List Int) (place:List Int) (nodes:List GDNode) (unique:GMap Int) (memo:GMap Int) (Q:List GDNode->GMap Int->GMap Int->Int->Prop):Prop:=
 ∃fu,aR fu a 1 b order place nodes unique memo λu u1 u2 r=>
 Q u u1 u2 r
def gR (a:Int) (b:Int) (order:List Int) (place:List Int) (nodes:List GDNode) (unique:GMap Int) (memo:GMap Int) (Q:List GDNode->GMap Int->GMap Int->Int->Prop):Prop:=
 gS b order place nodes unique memo λu u1 u2 r=>
 ∃fu,aR fu a r b order place u u1 u2 λu3 u4 u5 r1=>
 Q u3 u4 u5 r1
def bB:Nat->Int->Int->(GMap Bool)->(List Int)->(List Int)->(List GDNode)->(GMap Int)->(GMap Int)->(GMap Bool->Prop)->Prop
 | 0,_,_,_,_,_,_,_,_,_=>False
 | fu+1,r,u,u1,order,place,nodes,unique,memo,Q=>
  aG (decide (r<2))
   (Q u1)
   (aG (Option.getD (eX u1 [r]) false)
    (Q u1)
    (aG (decide (u<((GMap.n u1:Nat):Int)))
     (Q u1)
     (rng (r-2)/\
     ((0:Int)<=(r-2)/\(r-2)<(nodes.length:Int))/\
     ∃u2,(bB fu ((at' nodes (r-2)).Lo) u (mput u1 [r] true) order place nodes unique memo λy1=>y1=u2)/\
     rng (r-2)/\
     ((0:Int)<=(r-2)/\(r-2)<(nodes.length:Int))/\
     ∃u3,(bB fu ((at' nodes (r-2)).Hi) u u2 order place nodes unique memo λy2=>y2=u3)/\
     Q u3)))
def dQ (root:Int) (most:Int) (order:List Int) (place:List Int) (nodes:List GDNode) (unique:GMap Int) (memo:GMap Int) (Q:Bool->Prop):Prop:=
 ∃fu,bB fu root most (nU:GMap Bool) order place nodes unique memo λu=>
 Q (decide (((GMap.n u:Nat):Int)<=most))
def cC:Nat->Int->Int->(GMap Int)->(List Int)->(List GDNode)->(List Int)->(List Int)->(List GDNode)->(GMap Int)->(GMap Int)->(GMap Int->List GDNode->Int->Prop)->Prop
 | 0,_,_,_,_,_,_,_,_,_,_,_=>False
 | fu+1,r,Root,u,Order,Nodes,order,place,nodes,unique,memo,Q=>
  aG (Option.isSome (eX u [r]))
   (Q u Nodes (Option.getD (eX u [r]) 0))
   (rng (r-2)/\
   ((0:Int)<=(r-2)/\(r-2)<(nodes.length:Int))/\
   cC fu ((at' nodes (r-2)).Lo) Root u Order Nodes order place nodes unique memo λu1 u2 lo=>
   cC fu ((at' nodes (r-2)).Hi) Root u1 Order u2 order place nodes unique memo λu3 u4 hi1=>
   ((u4++[(⟨(at' nodes (r-2)).Var,lo,hi1⟩:GDNode)]).length*24<=140737488355328)/\
   rng (1+((u4++[(⟨(at' nodes (r-2)).Var,lo,hi1⟩:GDNode)]).length:Int))/\
   Q (mput u3 [r] (1+((u4++[(⟨(at' nodes (r-2)).Var,lo,hi1⟩:GDNode)]).length:Int))) (u4++[(⟨(at' nodes (r-2)).Var,lo,hi1⟩:GDNode)]) (Option.getD (eX (mput u3 [r] (1+((u4++[(⟨(at' nodes (r-2)).Var,lo,hi1⟩:GDNode)]).length:Int))) [r]) 0))
def fS (root:Int) (order:List Int) (place:List Int) (nodes:List GDNode) (unique:GMap Int) (memo:GMap Int) (Q:GDiagram->Prop):Prop:=
 (order.length*8<=140737488355328)/\
 ∃fu,cC fu root 0 (mput (mput (nU:GMap Int) [0] 0) [1] 1) order ([]:List GDNode) order place nodes unique memo λ_ u1 r=>
 Q (⟨order,u1,r⟩:GDiagram)
end Go.Gg
namespace Go.Gg
def vU (refs:List Int) (first:Int) (order:List Int) (place:List Int) (nodes:List GDNode) (unique:GMap Int) (memo:GMap Int) (Q:List GDNode->GMap Int->GMap Int->Int->Prop):Prop:=
 bX (σ:=Int×Int×(List GDNode)×(GMap Int)×(GMap Int)) (first,0,nodes,unique,memo) λ⟨first1,x,x1,x2,x3⟩ next1=>
  aG (decide (x<(refs.length:Int)))
   (((0:Int)<=x/\x<(refs.length:Int))/\
   gT first1 (at' refs x) order place x1 x2 x3 λu u1 u2 first2=>
   rng (x+1)/\
   next1 (first2,(x+1),u,u1,u2))
   (Q x1 x2 x3 first1)
def uO (refs:List Int) (first:Int) (order:List Int) (place:List Int) (nodes:List GDNode) (unique:GMap Int) (memo:GMap Int) (Q:List GDNode->GMap Int->GMap Int->Int->Prop):Prop:=
 bX (σ:=Int×Int×(List GDNode)×(GMap Int)×(GMap Int)) (first,0,nodes,unique,memo) λ⟨first1,x,x1,x2,x3⟩ next1=>
  aG (decide (x<(refs.length:Int)))
   (((0:Int)<=x/\x<(refs.length:Int))/\
   iC first1 (at' refs x) order place x1 x2 x3 λu u1 u2 first2=>
   rng (x+1)/\
   next1 (first2,(x+1),u,u1,u2))
   (Q x1 x2 x3 first1)
def uN (refs:List Int) (first:Int) (order:List Int) (place:List Int) (nodes:List GDNode) (unique:GMap Int) (memo:GMap Int) (Q:List GDNode->GMap Int->GMap Int->Int->Prop):Prop:=
 bX (σ:=Int×Int×(List GDNode)×(GMap Int)×(GMap Int)) (first,0,nodes,unique,memo) λ⟨first1,x,x1,x2,x3⟩ next1=>
  aG (decide (x<(refs.length:Int)))
   (((0:Int)<=x/\x<(refs.length:Int))/\
   gR first1 (at' refs x) order place x1 x2 x3 λu u1 u2 first2=>
   rng (x+1)/\
   next1 (first2,(x+1),u,u1,u2))
   (Q x1 x2 x3 first1)
def pY (refs:List Int) (k6:Int) (order:List Int) (place:List Int) (nodes:List GDNode) (unique:GMap Int) (memo:GMap Int) (Q:List GDNode->GMap Int->GMap Int->Int->Prop):Prop:=
 rng (k6+1)/\
 tH 8 (k6+1) (k6+1)/\
 ((0:Int)<=0/\0<((Int.toNat (k6+1)):Int))/\
 bX (σ:=Int×(List Int)×(List GDNode)×(GMap Int)×(GMap Int)) (0,(cJ (dA (k6+1) 0) 0 1),nodes,unique,memo) λ⟨x,need,x1,x2,x3⟩ next1=>
  aG (decide (x<(refs.length:Int)))
   (((0:Int)<=x/\x<(refs.length:Int))/\
   bX (σ:=Int×(List Int)×(List GDNode)×(GMap Int)×(GMap Int)) (k6,need,x1,x2,x3) λ⟨j,need1,x4,x5,x6⟩ next2=>
    aG (decide (0<j))
     (rng (j-1)/\
     ((0:Int)<=(j-1)/\(j-1)<(need1.length:Int))/\
     ((0:Int)<=j/\j<(need1.length:Int))/\
     ∃u u1 u2 r,(∃fu,aR fu (at' refs x) (at' need1 (j-1)) (at' need1 j) order place x4 x5 x6 λy1 y2 y3 y4=>y1=u/\y2=u1/\y3=u2/\y4=r)/\
     ((0:Int)<=j/\j<(need1.length:Int))/\
     rng (j-1)/\
     next2 ((j-1),(cJ need1 j r),u,u1,u2))
     (rng (x+1)/\
     next1 ((x+1),need1,x4,x5,x6)))
   (((0:Int)<=k6/\k6<(need.length:Int))/\
   Q x1 x2 x3 (at' need k6))
def mC (x:GNode) (refs:List Int) (order:List Int) (place:List Int) (nodes:List GDNode) (unique:GMap Int) (memo:GMap Int) (Q:List GDNode->GMap Int->GMap Int->Int->Prop):Prop:=
 aG (x.Kind == 0)
  (Q nodes unique memo x.K)
  (aG (x.Kind == 1)
   (((0:Int)<=0/\0<(refs.length:Int))/\
   gS (at' refs 0) order place nodes unique memo λu u1 u2 r=>
   Q u u1 u2 r)
   (aG (x.Kind == 2)
    (vU refs 1 order place nodes unique memo λu3 u4 u5 r1=>
    Q u3 u4 u5 r1)
    (aG (x.Kind == 3)
     (uO refs 0 order place nodes unique memo λu6 u7 u8 r2=>
     Q u6 u7 u8 r2)
     (aG (x.Kind == 5)
      (uN refs 0 order place nodes unique memo λu9 u10 u11 r3=>
      Q u9 u10 u11 r3)
      (pY refs x.K order place nodes unique memo λu12 u13 u14 r4=>
      Q u12 u13 u14 r4)))))
def oH (f:GFormula) (o:List Int) (Q:GDiagram->Option Int->Prop):Prop:=
 uL f λr _ r2=>
 aG (Option.isSome r2)
  (Q (⟨[],[],0⟩:GDiagram) r2)
  (wT o f.Vars λerr=>
  aG (Option.isSome err)
   (Q (⟨[],[],0⟩:GDiagram) err)
   (gG (α:=GFormula) (λnext4=>
    aG (decide (0<r))
     (uK f λr7 r8=>
     aG (Option.isSome r8)
      (Q (⟨[],[],0⟩:GDiagram) r8)
      (next4 r7))
     (next4 (⟨f.Vars,[],f.Top⟩:GFormula)))
    λx=>
    qB o λorder place unique memo=>
    rng (x.Vars+(x.Nodes.length:Int))/\
    tH 8 (x.Vars+(x.Nodes.length:Int)) (x.Vars+(x.Nodes.length:Int))/\
    bX (σ:=Int×(List Int)×(GMap Int)×(List GDNode)) (0,(dA (x.Vars+(x.Nodes.length:Int)) 0),unique,[]) λ⟨x1,refs,x2,x3⟩ next1=>
     aG (decide (x1<x.Vars))
      (fT x1 order place x3 x2 memo λu u1 r3=>
      ((0:Int)<=x1/\x1<(refs.length:Int))/\
      rng (x1+1)/\
      next1 ((x1+1),(cJ refs x1 r3),u1,u))
      (bX (σ:=Int×(List Int)×(GMap Int)×(GMap Int)×(List GDNode)) (0,refs,x2,memo,x3) λ⟨x4,refs1,x5,x6,x7⟩ next2=>
       aG (decide (x4<(x.Nodes.length:Int)))
        (((0:Int)<=x4/\x4<(x.Nodes.length:Int))/\
        bX (σ:=Int×(List Int)) (0,[]) λ⟨x8,args⟩ next3=>
         aG (decide (x8<(((at' x.Nodes x4).Args).length:Int)))
          (((0:Int)<=x8/\x8<(((at' x.Nodes x4).Args).length:Int))/\
          ((0:Int)<=(at' ((at' x.Nodes x4).Args) x8)/\(at' ((at' x.Nodes x4).Args) x8)<(refs1.length:Int))/\
          ((args++[(at' refs1 (at' ((at' x.Nodes x4).Args) x8))]).length*8<=140737488355328)/\
          rng (x8+1)/\
          next3 ((x8+1),(args++[(at' refs1 (at' ((at' x.Nodes x4).Args) x8))])))
          (rng (x.Vars+x4)/\
          ∃u2 u3 u4 r4,(mC (at' x.Nodes x4) args order place x7 x5 x6 λy1 y2 y3 y4=>y1=u2/\y2=u3/\y3=u4/\y4=r4)/\
          ((0:Int)<=(x.Vars+x4)/\(x.Vars+x4)<(refs1.length:Int))/\
          rng (x.Vars+x4)/\
          ((0:Int)<=(x.Vars+x4)/\(x.Vars+x4)<(refs1.length:Int))/\
          dQ (at' (cJ refs1 (x.Vars+x4) r4) (x.Vars+x4)) 4096 order place u2 u3 u4 λr5=>
          aG (!r5)
           (Q (⟨[],[],0⟩:GDiagram) (some 4))
           (rng (x4+1)/\
           next2 ((x4+1),(cJ refs1 (x.Vars+x4) r4),u3,u4,u2))))
        (((0:Int)<=x.Top/\x.Top<(refs1.length:Int))/\
        fS (at' refs1 x.Top) order place x7 x5 x6 λr6=>
        Q r6 none))))
end Go.Gg
namespace Go.Gg
def fG (s:List Int) (Q:List Int->Prop):Prop:=
 ∀isnil:Bool,(isnil=true->s=[])->
 aG isnil
  (Q [])
  ((([]++s).length*4<=140737488355328)/\
  Q ([]++s))
def jY (s:List Int) (Q:List Int->Prop):Prop:=
 ∀isnil:Bool,(isnil=true->s=[])->
 aG isnil
  (Q [])
  ((([]++s).length*8<=140737488355328)/\
  Q ([]++s))
def iN (s:List Int) (Q:List Int->Prop):Prop:=
 ∀isnil:Bool,(isnil=true->s.length=0)->
 aG isnil
  (Q [])
  ((([]++s).length*8<=140737488355328)/\
  Q ([]++s))
end Go.Gg
namespace Go.Gg
def vF (x:GRat) (Q:Bool->Prop):Prop:=
 nY x λr=>
 Q (!r)
def cU (s:List GRat) (Q:Int->Prop):Prop:=
 bX (σ:=Int) 0 λx next1=>
  aG (decide (x<(s.length:Int)))
   (((0:Int)<=x/\x<(s.length:Int))/\
   vF (at' s x) λr=>
   aG r
    (Q x)
    (rng (x+1)/\
    next1 (x+1)))
   (Q (-1))
def cO (s:List GRat) (Q:Bool->Prop):Prop:=
 cU s λr=>
 Q (decide (0<=r))
def sD (p:List GRat) (vars:Int) (Q:Option Int->Prop):Prop:=
 aG ((p.length:Int) != vars)
  (Q (some 11))
  (cO p λr=>
  aG r
   (Q (some 3))
   (Q none))
def yB (v:List GRat) (r:Int) (Q:GRat->Prop):Prop:=
 aG (decide (r<2))
  (iR r λr1=>
  Q r1)
  (rng (r-2)/\
  ((0:Int)<=(r-2)/\(r-2)<(v.length:Int))/\
  Q (at' v (r-2)))
def sC (r:Int) (v:List GRat) (Q:GRat->Prop):Prop:=
 aG (decide (r<2))
  (iR r λr1=>
  Q r1)
  (rng (r-2)/\
  ((0:Int)<=(r-2)/\(r-2)<(v.length:Int))/\
  Q (at' v (r-2)))
def pL (n:GDNode) (p:List GRat) (v:List GRat) (Q:GRat->Prop):Prop:=
 ((0:Int)<=n.Var/\n.Var<(p.length:Int))/\
 iH (iR 1) λr=>
 iH (kF r (at' p n.Var)) λr1=>
 ∃r2,(sC n.Lo v λy1=>y1=r2)/\
 iH (gU r1 r2) λr3=>
 ∃r4,(sC n.Hi v λy2=>y2=r4)/\
 iH (gU (at' p n.Var) r4) λr5=>
 iH (gV r3 r5) λr6=>
 Q r6
def qN (d:GDiagram) (p:List GRat) (Q:List GRat->Prop):Prop:=
 tH 56 0 (d.Nodes.length:Int)/\
 bX (σ:=Int×(List GRat)) (0,(dA 0 (⟨false,[],[]⟩:GRat))) λ⟨x,v⟩ next1=>
  aG (decide (x<(d.Nodes.length:Int)))
   (((0:Int)<=x/\x<(d.Nodes.length:Int))/\
   pL (at' d.Nodes x) p v λr=>
   ((v++[r]).length*56<=140737488355328)/\
   rng (x+1)/\
   next1 ((x+1),(v++[r])))
   (Q v)
def rC (f:GFormula) (p:List GRat) (Q:GRat->Option Int->Prop):Prop:=
 gC f λerr=>
 aG (Option.isSome err)
  (Q (⟨false,[],[]⟩:GRat) err)
  (sD p f.Vars λerr1=>
  aG (Option.isSome err1)
   (Q (⟨false,[],[]⟩:GRat) err1)
   (wS f λr r1=>
   aG (Option.isSome r1)
    (Q (⟨false,[],[]⟩:GRat) r1)
    (oH f r λr2 r3=>
    aG (Option.isSome r3)
     (Q (⟨false,[],[]⟩:GRat) r3)
     (iH (qN r2 p) λr4=>
     iH (yB r4 r2.Root) λr5=>
     Q r5 none))))
end Go.Gg
namespace Go.Gg
def xJ (x:GRat) (Q:Bool->Prop):Prop:=
 nY x λr=>
 Q (!r)
def dE (s:List GRat) (Q:Int->Prop):Prop:=
 bX (σ:=Int) 0 λx next1=>
  aG (decide (x<(s.length:Int)))
   (((0:Int)<=x/\x<(s.length:Int))/\
   xJ (at' s x) λr=>
   aG r
    (Q x)
    (rng (x+1)/\
    next1 (x+1)))
   (Q (-1))
def cD (s:List GRat) (Q:Bool->Prop):Prop:=
 dE s λr=>
 Q (decide (0<=r))
def kI (m:GMission) (Q:Option Int->Prop):Prop:=
 aG ((m.Phases.length:Int) == 0)
  (Q (some 11))
  (aG (decide (6<(m.Phases.length:Int)))
   (Q (some 4))
   (((0:Int)<=0/\0<(m.Phases.length:Int))/\
   bX (σ:=Int) 0 λx next1=>
    aG (decide (x<(m.Phases.length:Int)))
     (((0:Int)<=x/\x<(m.Phases.length:Int))/\
     gC (at' m.Phases x) λerr=>
     aG (Option.isSome err)
      (Q err)
      (aG ((at' m.Phases x).Vars != (at' m.Phases 0).Vars)
       (Q (some 11))
       (rng (x+1)/\
       next1 (x+1))))
     (rng ((at' m.Phases 0).Vars*(m.Phases.length:Int))/\
     aG (decide (24<((at' m.Phases 0).Vars*(m.Phases.length:Int))))
      (Q (some 4))
      (aG ((m.P.length:Int) != (at' m.Phases 0).Vars)
       (Q (some 11))
       (bX (σ:=Int) 0 λx1 next2=>
        aG (decide (x1<(m.P.length:Int)))
         (((0:Int)<=x1/\x1<(m.P.length:Int))/\
         aG (((at' m.P x1).length:Int) != (m.Phases.length:Int))
          (Q (some 11))
          (cD (at' m.P x1) λr=>
          aG r
           (Q (some 3))
           (rng (x1+1)/\
           next2 (x1+1))))
         (Q none))))))
def jJ (m:GMission) (h1:List Int) (Q:Option Int->Prop):Prop:=
 kI m λerr=>
 aG (Option.isSome err)
  (Q err)
  (aG ((h1.length:Int) != (m.P.length:Int))
   (Q (some 11))
   (bX (σ:=Int) 0 λx next1=>
    aG (decide (x<(h1.length:Int)))
     (((0:Int)<=x/\x<(h1.length:Int))/\
     gG (α:=Bool) (λnext2=>
      aG (decide ((at' h1 x)<0))
       (next2 true)
       (next2 (decide ((m.Phases.length:Int)<(at' h1 x)))))
      λx1=>
      aG x1
       (Q (some 3))
       (rng (x+1)/\
       next1 (x+1)))
     (Q none)))
def sG (h1:List Int) (j:Int) (Q:Int->Prop):Prop:=
 bX (σ:=Int×Int) (0,0) λ⟨set,x⟩ next1=>
  aG (decide (x<(h1.length:Int)))
   (((0:Int)<=x/\x<(h1.length:Int))/\
   aG (decide ((at' h1 x)<=j))
    ((((0:Int)<=x/\x<=64)/\rng (1*2^(Int.toNat x)))/\
    rng (x+1)/\
    next1 ((bits .or .i64 set (1*2^(Int.toNat x))),(x+1)))
    (rng (x+1)/\
    next1 (set,(x+1))))
   (Q set)
def uF (m:GMission) (h1:List Int) (Q:Int->Option Int->Prop):Prop:=
 jJ m h1 λerr=>
 aG (Option.isSome err)
  (Q 0 err)
  (bX (σ:=Int) 0 λx next1=>
   aG (decide (x<(m.Phases.length:Int)))
    (((0:Int)<=x/\x<(m.Phases.length:Int))/\
    iH (sG h1 x) λr=>
    aPO (sO (at' m.Phases x) r) λr1 r2=>
    aG (Option.isSome r2)
     (Q 0 r2)
     (aG r1
      (Q x none)
      (rng (x+1)/\
      next1 (x+1))))
    (Q (m.Phases.length:Int) none))
def sH (m:GMission) (h1:List Int) (Q:GRat->Option Int->Prop):Prop:=
 jJ m h1 λerr=>
 aG (Option.isSome err)
  (Q (⟨false,[],[]⟩:GRat) err)
  (iR 1 λr=>
  bX (σ:=Int×GRat) (0,r) λ⟨x,x1⟩ next1=>
   aG (decide (x<(h1.length:Int)))
    (((0:Int)<=x/\x<(h1.length:Int))/\
    ((0:Int)<=x/\x<(m.P.length:Int))/\
    rng ((at' h1 x)+1)/\
    ((0:Int)<=0/\0<=(min ((at' h1 x)+1) (m.Phases.length:Int))/\(min ((at' h1 x)+1) (m.Phases.length:Int))<=((at' m.P x).length:Int))/\
    bX (σ:=Int×GRat) (0,x1) λ⟨x2,x3⟩ next2=>
     aG (decide (x2<((dW (at' m.P x) 0 (min ((at' h1 x)+1) (m.Phases.length:Int))).length:Int)))
      (((0:Int)<=x2/\x2<((dW (at' m.P x) 0 (min ((at' h1 x)+1) (m.Phases.length:Int))).length:Int))/\
      gG (α:=GRat) (λnext3=>
       aG (decide (x2<(at' h1 x)))
        (kF r (at' (dW (at' m.P x) 0 (min ((at' h1 x)+1) (m.Phases.length:Int))) x2) λr2=>
        next3 r2)
        (next3 (at' (dW (at' m.P x) 0 (min ((at' h1 x)+1) (m.Phases.length:Int))) x2)))
       λx4=>
       gU x3 x4 λr1=>
       rng (x2+1)/\
       next2 ((x2+1),r1))
      (rng (x+1)/\
      next1 ((x+1),x3)))
    (Q x1 none))
def gX (kind:Int) (k2:Int) (args:List Int) (Vars:Int) (_Top:Int) (Nodes:List GNode) (Q:List GNode->Int->Prop):Prop:=
 ((Nodes++[(⟨kind,k2,args⟩:GNode)]).length*40<=140737488355328)/\
 rng (Vars+((Nodes++[(⟨kind,k2,args⟩:GNode)]).length:Int))/\
 rng ((Vars+((Nodes++[(⟨kind,k2,args⟩:GNode)]).length:Int))-1)/\
 Q (Nodes++[(⟨kind,k2,args⟩:GNode)]) ((Vars+((Nodes++[(⟨kind,k2,args⟩:GNode)]).length:Int))-1)
def gW (arg:Int) (u:GFormula) (u1:Int) (u2:Int) (u3:List (List Int)) (Q:Int->Prop):Prop:=
 aG (decide (arg<u.Vars))
  (((0:Int)<=arg/\arg<(u3.length:Int))/\
  ((0:Int)<=u1/\u1<((at' u3 arg).length:Int))/\
  Q (at' (at' u3 arg) u1))
  (rng (u2+arg)/\
  rng ((u2+arg)-u.Vars)/\
  Q ((u2+arg)-u.Vars))
def sI (m:GMission) (Q:GFormula->List GRat->Option Int->Prop):Prop:=
 kI m λerr=>
 aG (Option.isSome err)
  (Q (⟨0,[],0⟩:GFormula) [] err)
  (rng ((m.P.length:Int)*(m.Phases.length:Int))/\
  tH 24 (m.P.length:Int) (m.P.length:Int)/\
  bX (σ:=Int×(List (List Int))×(List GNode)) (0,(dA (m.P.length:Int) []),[]) λ⟨x,x1,x2⟩ next1=>
   aG (decide (x<((Int.toNat (m.P.length:Int)):Int)))
    (bX (σ:=Int×(List (List Int))×(List Int)×(List GNode)) (0,x1,[],x2) λ⟨x3,x4,so,x5⟩ next2=>
     aG (decide (x3<(m.Phases.length:Int)))
      (rng (x*(m.Phases.length:Int))/\
      rng ((x*(m.Phases.length:Int))+x3)/\
      ((so++[((x*(m.Phases.length:Int))+x3)]).length*8<=140737488355328)/\
      aG (x3 == 0)
       (((0:Int)<=x/\x<(x4.length:Int))/\
       ((0:Int)<=0/\0<((so++[((x*(m.Phases.length:Int))+x3)]).length:Int))/\
       ((at' x4 x++[(at' (so++[((x*(m.Phases.length:Int))+x3)]) 0)]).length*8<=140737488355328)/\
       ((0:Int)<=x/\x<(x4.length:Int))/\
       rng (x3+1)/\
       next2 ((x3+1),(cJ x4 x (at' x4 x++[(at' (so++[((x*(m.Phases.length:Int))+x3)]) 0)])),(so++[((x*(m.Phases.length:Int))+x3)]),x5))
       (((0:Int)<=x/\x<(x4.length:Int))/\
       ∃r,(iN (so++[((x*(m.Phases.length:Int))+x3)]) λy1=>y1=r)/\
       ∃u r1,(gX 3 0 r ((m.P.length:Int)*(m.Phases.length:Int)) 0 x5 λy2 y3=>y2=u/\y3=r1)/\
       ((at' x4 x++[r1]).length*8<=140737488355328)/\
       ((0:Int)<=x/\x<(x4.length:Int))/\
       rng (x3+1)/\
       next2 ((x3+1),(cJ x4 x (at' x4 x++[r1])),(so++[((x*(m.Phases.length:Int))+x3)]),u)))
      (rng (x+1)/\
      next1 ((x+1),x4,x5)))
    (bX (σ:=Int×(List Int)×(List GNode)) (0,[],x2) λ⟨x6,tops,x7⟩ next3=>
     aG (decide (x6<(m.Phases.length:Int)))
      (((0:Int)<=x6/\x6<(m.Phases.length:Int))/\
      rng (((m.P.length:Int)*(m.Phases.length:Int))+(x7.length:Int))/\
      bX (σ:=Int×(List GNode)) (0,x7) λ⟨x8,x9⟩ next4=>
       aG (decide (x8<(((at' m.Phases x6).Nodes).length:Int)))
        (((0:Int)<=x8/\x8<(((at' m.Phases x6).Nodes).length:Int))/\
        bX (σ:=Int×(List Int)) (0,[]) λ⟨x10,args⟩ next5=>
         aG (decide (x10<(((at' ((at' m.Phases x6).Nodes) x8).Args).length:Int)))
          (((0:Int)<=x10/\x10<(((at' ((at' m.Phases x6).Nodes) x8).Args).length:Int))/\
          sZ (at' ((at' ((at' m.Phases x6).Nodes) x8).Args) x10) λa=>
          gW a (at' m.Phases x6) x6 (((m.P.length:Int)*(m.Phases.length:Int))+(x7.length:Int)) x1 λr2=>
          ((args++[r2]).length*8<=140737488355328)/\
          rng (x10+1)/\
          next5 ((x10+1),(args++[r2])))
          (gX ((at' ((at' m.Phases x6).Nodes) x8).Kind) ((at' ((at' m.Phases x6).Nodes) x8).K) args ((m.P.length:Int)*(m.Phases.length:Int)) 0 x9 λu1 _=>
          rng (x8+1)/\
          next4 ((x8+1),u1)))
        (gW ((at' m.Phases x6).Top) (at' m.Phases x6) x6 (((m.P.length:Int)*(m.Phases.length:Int))+(x7.length:Int)) x1 λr4=>
        ((tops++[r4]).length*8<=140737488355328)/\
        rng (x6+1)/\
        next3 ((x6+1),(tops++[r4]),x9)))
      (((0:Int)<=0/\0<(tops.length:Int))/\
      gG (α:=Int×(List GNode)) (λnext8=>
       aG (decide (1<(m.Phases.length:Int)))
        (gX 3 0 tops ((m.P.length:Int)*(m.Phases.length:Int)) (at' tops 0) x7 λu2 r6=>
        next8 (r6,u2))
        (next8 ((at' tops 0),x7)))
       λ⟨x11,x12⟩=>
       aG (decide (128<(x12.length:Int)))
        (Q (⟨0,[],0⟩:GFormula) [] (some 4))
        (bX (σ:=Int×(List GRat)) (0,[]) λ⟨x13,p⟩ next6=>
         aG (decide (x13<(m.P.length:Int)))
          (((0:Int)<=x13/\x13<(m.P.length:Int))/\
          bX (σ:=Int×(List GRat)) (0,p) λ⟨x14,p1⟩ next7=>
           aG (decide (x14<((at' m.P x13).length:Int)))
            (((0:Int)<=x14/\x14<((at' m.P x13).length:Int))/\
            gV (at' (at' m.P x13) x14) (⟨false,[],[]⟩:GRat) λr5=>
            ((p1++[r5]).length*56<=140737488355328)/\
            rng (x14+1)/\
            next7 ((x14+1),(p1++[r5])))
            (rng (x13+1)/\
            next6 ((x13+1),p1)))
          (Q (⟨((m.P.length:Int)*(m.Phases.length:Int)),x12,x11⟩:GFormula) p none)))))
end Go.Gg
namespace Go.Gg
def fV (m:GMission) (Q:Int->Prop):Prop:=
 ((0:Int)<=0/\0<(m.Phases.length:Int))/\
 Q ((at' m.Phases 0).Vars)
def xE (m:GMission) (Q:Int->Prop):Prop:=
 aG ((m.Phases.length:Int) == 0)
  (Q 11)
  (aG (decide (6<(m.Phases.length:Int)))
   (Q 4)
   (bX (σ:=Int) 0 λj next1=>
    aG (decide (j<(m.Phases.length:Int)))
     (((0:Int)<=j/\j<(m.Phases.length:Int))/\
     wK (at' m.Phases j) λe=>
     aG (e != 0)
      (Q e)
      (((0:Int)<=j/\j<(m.Phases.length:Int))/\
      iH (fV m) λr=>
      aG ((at' m.Phases j).Vars != r)
       (Q 11)
       (rng (j+1)/\
       next1 (j+1))))
     (Q 0)))
def nP (m:GMission) (Q:Int->Prop):Prop:=
 xE m λe=>
 aG (e != 0)
  (Q e)
  (iH (fV m) λr=>
  rng (r*(m.Phases.length:Int))/\
  aG (decide (24<(r*(m.Phases.length:Int))))
   (Q 4)
   (iH (fV m) λr1=>
   aG ((m.P.length:Int) != r1)
    (Q 11)
    (bX (σ:=Int) 0 λi next1=>
     aG (decide (i<(m.P.length:Int)))
      (((0:Int)<=i/\i<(m.P.length:Int))/\
      aG (((at' m.P i).length:Int) != (m.Phases.length:Int))
       (Q 11)
       (bX (σ:=Int) 0 λj next2=>
        ((0:Int)<=i/\i<(m.P.length:Int))/\
        aG (decide (j<((at' m.P i).length:Int)))
         (((0:Int)<=i/\i<(m.P.length:Int))/\
         ((0:Int)<=j/\j<((at' m.P i).length:Int))/\
         tC (at' (at' m.P i) j) λr2=>
         aG (!r2)
          (Q 3)
          (rng (j+1)/\
          next2 (j+1)))
         (rng (i+1)/\
         next1 (i+1))))
      (Q 0))))
def vH (events:Int) (phases:Int) (Q:List GNode->Prop):Prop:=
 bX (σ:=Int×(List GNode)) (0,[]) λ⟨i,out⟩ next1=>
  aG (decide (i<events))
   (bX (σ:=Int×(List GNode)) (1,out) λ⟨j,out1⟩ next2=>
    aG (decide (j<phases))
     (bX (σ:=Int×(List Int)) (0,[]) λ⟨k1,x⟩ next3=>
      aG (decide (k1<=j))
       (rng (i*phases)/\
       rng ((i*phases)+k1)/\
       ((x++[((i*phases)+k1)]).length*8<=140737488355328)/\
       rng (k1+1)/\
       next3 ((k1+1),(x++[((i*phases)+k1)])))
       (((out1++[(⟨3,0,x⟩:GNode)]).length*40<=140737488355328)/\
       rng (j+1)/\
       next2 ((j+1),(out1++[(⟨3,0,x⟩:GNode)]))))
     (rng (i+1)/\
     next1 ((i+1),out1)))
   (Q out)
def rD (m:GMission) (j:Int) (arg:Int) (first:Int) (Q:Int->Prop):Prop:=
 iH (fV m) λn=>
 aG (decide (n<=arg))
  (rng (first+arg)/\
  rng ((first+arg)-n)/\
  Q ((first+arg)-n))
  (aG (j == 0)
   (rng (arg*(m.Phases.length:Int))/\
   Q (arg*(m.Phases.length:Int)))
   (rng (n*(m.Phases.length:Int))/\
   rng ((m.Phases.length:Int)-1)/\
   rng (arg*((m.Phases.length:Int)-1))/\
   rng ((n*(m.Phases.length:Int))+(arg*((m.Phases.length:Int)-1)))/\
   rng (((n*(m.Phases.length:Int))+(arg*((m.Phases.length:Int)-1)))+j)/\
   rng ((((n*(m.Phases.length:Int))+(arg*((m.Phases.length:Int)-1)))+j)-1)/\
   Q ((((n*(m.Phases.length:Int))+(arg*((m.Phases.length:Int)-1)))+j)-1)))
def tZ (m:GMission) (Q:GFormula->List GRat->Int->Prop):Prop:=
 iH (fV m) λn=>
 rng (n*(m.Phases.length:Int))/\
 vH n (m.Phases.length:Int) λr=>
 bX (σ:=Int×(List GNode)×(List Int)) (0,r,[]) λ⟨j,x,x1⟩ next1=>
  aG (decide (j<(m.Phases.length:Int)))
   (((0:Int)<=j/\j<(m.Phases.length:Int))/\
   rng ((n*(m.Phases.length:Int))+(x.length:Int))/\
   bX (σ:=Int×(List GNode)) (0,x) λ⟨i,x2⟩ next2=>
    aG (decide (i<(((at' m.Phases j).Nodes).length:Int)))
     (((0:Int)<=i/\i<(((at' m.Phases j).Nodes).length:Int))/\
     ((0:Int)<=i/\i<(((at' m.Phases j).Nodes).length:Int))/\
     bX (σ:=Int×(List Int)) (0,[]) λ⟨a,x3⟩ next3=>
      ((0:Int)<=i/\i<(((at' m.Phases j).Nodes).length:Int))/\
      aG (decide (a<(((at' ((at' m.Phases j).Nodes) i).Args).length:Int)))
       (((0:Int)<=i/\i<(((at' m.Phases j).Nodes).length:Int))/\
       ((0:Int)<=a/\a<(((at' ((at' m.Phases j).Nodes) i).Args).length:Int))/\
       iH (rD m j (at' ((at' ((at' m.Phases j).Nodes) i).Args) a) ((n*(m.Phases.length:Int))+(x.length:Int))) λr1=>
       ((x3++[r1]).length*8<=140737488355328)/\
       rng (a+1)/\
       next3 ((a+1),(x3++[r1])))
       (((x2++[(⟨(at' ((at' m.Phases j).Nodes) i).Kind,(at' ((at' m.Phases j).Nodes) i).K,x3⟩:GNode)]).length*40<=140737488355328)/\
       rng (i+1)/\
       next2 ((i+1),(x2++[(⟨(at' ((at' m.Phases j).Nodes) i).Kind,(at' ((at' m.Phases j).Nodes) i).K,x3⟩:GNode)]))))
     (iH (rD m j ((at' m.Phases j).Top) ((n*(m.Phases.length:Int))+(x.length:Int))) λr2=>
     ((x1++[r2]).length*8<=140737488355328)/\
     rng (j+1)/\
     next1 ((j+1),x2,(x1++[r2]))))
   (((0:Int)<=0/\0<(x1.length:Int))/\
   gG (α:=Int×(List GNode)) (λnext5=>
    aG (decide (1<(m.Phases.length:Int)))
     (rng ((n*(m.Phases.length:Int))+(x.length:Int))/\
     ((x++[(⟨3,0,x1⟩:GNode)]).length*40<=140737488355328)/\
     next5 (((n*(m.Phases.length:Int))+(x.length:Int)),(x++[(⟨3,0,x1⟩:GNode)])))
     (next5 ((at' x1 0),x)))
    λ⟨x4,x5⟩=>
    aG (decide (128<(x5.length:Int)))
     (Q (⟨0,[],0⟩:GFormula) [] 4)
     (bX (σ:=Int×(List GRat)) (0,[]) λ⟨i1,p⟩ next4=>
      aG (decide (i1<n))
       (((0:Int)<=i1/\i1<(m.P.length:Int))/\
       ((p++(at' m.P i1)).length*56<=140737488355328)/\
       rng (i1+1)/\
       next4 ((i1+1),(p++(at' m.P i1))))
       (Q (⟨(n*(m.Phases.length:Int)),x5,x4⟩:GFormula) p 0)))
end Go.Gg
namespace Go.Gg
def kC (m:GMission) (Q:List GRat->Option Int->Prop):Prop:=
 kI m λerr=>
 aG (Option.isSome err)
  (Q [] err)
  (bX (σ:=Int×Int) (1,0) λ⟨all,x⟩ next1=>
   aG (decide (x<(m.P.length:Int)))
    (rng ((m.Phases.length:Int)+1)/\
    rng (all*((m.Phases.length:Int)+1))/\
    aG (decide (4096<(all*((m.Phases.length:Int)+1))))
     (Q [] (some 4))
     (rng (x+1)/\
     next1 ((all*((m.Phases.length:Int)+1)),(x+1))))
    (tH 56 (m.Phases.length:Int) (m.Phases.length:Int)/\
    bX (σ:=Int×(List GRat)) (0,(dA (m.Phases.length:Int) (⟨false,[],[]⟩:GRat))) λ⟨x1,out⟩ next2=>
     aG (decide (x1<all))
      (tH 8 (m.P.length:Int) (m.P.length:Int)/\
      bX (σ:=Int×Int×(List Int)) (x1,0,(dA (m.P.length:Int) 0)) λ⟨number,x2,h1⟩ next3=>
       aG (decide (x2<((Int.toNat (m.P.length:Int)):Int)))
        (rng ((m.Phases.length:Int)+1)/\
        ((m.Phases.length:Int)+1)≠0/\
        rng ((m.Phases.length:Int)+1)/\
        (((m.Phases.length:Int)+1)≠0/\rng (Int.tdiv number ((m.Phases.length:Int)+1)))/\
        ((0:Int)<=x2/\x2<(h1.length:Int))/\
        rng (x2+1)/\
        next3 ((Int.tdiv number ((m.Phases.length:Int)+1)),(x2+1),(cJ h1 x2 (Int.tmod number ((m.Phases.length:Int)+1)))))
        (uF m h1 λr r1=>
        aG (Option.isSome r1)
         (Q [] r1)
         (aG (r == (m.Phases.length:Int))
          (rng (x1+1)/\
          next2 ((x1+1),out))
          (sH m h1 λr2 r3=>
          aG (Option.isSome r3)
           (Q [] r3)
           (((0:Int)<=r/\r<(out.length:Int))/\
           iH (gV (at' out r) r2) λr4=>
           ((0:Int)<=r/\r<(out.length:Int))/\
           rng (x1+1)/\
           next2 ((x1+1),(cJ out r r4)))))))
      (Q out none)))
def jR (m:GMission) (Q:GRat->Option Int->Prop):Prop:=
 sI m λr r1 r2=>
 aG (Option.isSome r2)
  (Q (⟨false,[],[]⟩:GRat) r2)
  (rC r r1 λr3 r4=>
  Q r3 r4)
def sK (m:GMission) (j:Int) (Q:Option Int->Prop):Prop:=
 kI m λerr=>
 aG (Option.isSome err)
  (Q err)
  (gG (α:=Bool) (λnext1=>
   aG (decide (j<0))
    (next1 true)
    (next1 (decide ((m.Phases.length:Int)<=j))))
   λx=>
   aG x
    (Q (some 10))
    (Q none))
def qS (f:GFormula) (Q:GFormula->Prop):Prop:=
 bX (σ:=Int×(List GNode)) (0,[]) λ⟨x,x1⟩ next1=>
  aG (decide (x<(f.Nodes.length:Int)))
   (((0:Int)<=x/\x<(f.Nodes.length:Int))/\
   iH (jY ((at' f.Nodes x).Args)) λr=>
   ((x1++[(⟨(at' f.Nodes x).Kind,(at' f.Nodes x).K,r⟩:GNode)]).length*40<=140737488355328)/\
   rng (x+1)/\
   next1 ((x+1),(x1++[(⟨(at' f.Nodes x).Kind,(at' f.Nodes x).K,r⟩:GNode)])))
   (Q (⟨f.Vars,x1,f.Top⟩:GFormula))
def wV (x:GRat) (Q:GRat->Prop):Prop:=
 iH (fG x.Num) λr=>
 iH (fG x.Den) λr1=>
 Q (⟨x.Neg,r,r1⟩:GRat)
def lN (m:GMission) (j:Int) (Q:GMission->Option Int->Prop):Prop:=
 sK m j λerr=>
 aG (Option.isSome err)
  (Q (⟨[],[]⟩:GMission) err)
  (rng (j+1)/\
  ((0:Int)<=0/\0<=(j+1)/\(j+1)<=(m.Phases.length:Int))/\
  bX (σ:=Int×(List GFormula)) (0,[]) λ⟨x,x1⟩ next1=>
   aG (decide (x<((dW m.Phases 0 (j+1)).length:Int)))
    (((0:Int)<=x/\x<((dW m.Phases 0 (j+1)).length:Int))/\
    iH (qS (at' (dW m.Phases 0 (j+1)) x)) λr=>
    ((x1++[r]).length*40<=140737488355328)/\
    rng (x+1)/\
    next1 ((x+1),(x1++[r])))
    (bX (σ:=Int×(List (List GRat))) (0,[]) λ⟨x2,x3⟩ next2=>
     aG (decide (x2<(m.P.length:Int)))
      (((0:Int)<=x2/\x2<(m.P.length:Int))/\
      rng (j+1)/\
      ((0:Int)<=0/\0<=(j+1)/\(j+1)<=((at' m.P x2).length:Int))/\
      bX (σ:=Int×(List GRat)) (0,[]) λ⟨x4,row⟩ next3=>
       aG (decide (x4<((dW (at' m.P x2) 0 (j+1)).length:Int)))
        (((0:Int)<=x4/\x4<((dW (at' m.P x2) 0 (j+1)).length:Int))/\
        wV (at' (dW (at' m.P x2) 0 (j+1)) x4) λr1=>
        ((row++[r1]).length*56<=140737488355328)/\
        rng (x4+1)/\
        next3 ((x4+1),(row++[r1])))
        (((x3++[row]).length*24<=140737488355328)/\
        rng (x2+1)/\
        next2 ((x2+1),(x3++[row]))))
      (Q (⟨x1,x3⟩:GMission) none)))
def pW (m:GMission) (j:Int) (Q:GRat->Option Int->Prop):Prop:=
 lN m j λr r1=>
 aG (Option.isSome r1)
  (Q (⟨false,[],[]⟩:GRat) r1)
  (jR r λr2 r3=>
  Q r2 r3)
end Go.Gg
namespace Go.Gg
def jV (m:GMission) (Q:Int->Prop):Prop:=
 bX (σ:=Int×Int) (1,0) λ⟨n,i⟩ next1=>
  fV m λr=>
  aG (decide (i<r))
   (aG (decide (n<=4096))
    (rng ((m.Phases.length:Int)+1)/\
    rng (n*((m.Phases.length:Int)+1))/\
    rng (i+1)/\
    next1 ((n*((m.Phases.length:Int)+1)),(i+1)))
    (Q n))
   (Q n)
end Go.Gg
namespace Go.Gg
end Go.Gg
namespace Go.Gg
def nF (n:Int) (d:Int) (Q:GRat->Prop):Prop:=
 tD n d λr _=>
 Q r
def oD (Q:GMission->Prop):Prop:=
 nF 1 2 λr=>
 Q (⟨[(⟨2,[(⟨2,0,[0,1]⟩:GNode)],2⟩:GFormula),(⟨2,[(⟨3,0,[0,1]⟩:GNode)],2⟩:GFormula)],[[r,r],[r,r]]⟩:GMission)
def lR (Q:Bool->Prop):Prop:=
 oD λr=>
 kC r λr1 r2=>
 oD λr3=>
 jR r3 λr4 r5=>
 aG (Option.isNone r2)
  (aG (Option.isNone r5)
   (iH (nF 15 16) λr6=>
   iH (yV r4 r6) λr7=>
   aG r7
    (iH (nF 1 4) λr8=>
    iH (nF 11 16) λr9=>
    iH (vW r1 [r8,r9]) λr10=>
    Q r10)
    (Q false))
   (Q false))
  (Q false)
def wW (m:GMission) (Q:Bool->Prop):Prop:=
 aG (decide (20<(m.Phases.length:Int)))
  (Q true)
  (aG (decide (50<(m.P.length:Int)))
   (Q true)
   (bX (σ:=Int) 0 λi next1=>
    aG (decide (i<(m.P.length:Int)))
     (((0:Int)<=i/\i<(m.P.length:Int))/\
     aG (decide (50<((at' m.P i).length:Int)))
      (Q true)
      (bX (σ:=Int) 0 λj next2=>
       ((0:Int)<=i/\i<(m.P.length:Int))/\
       aG (decide (j<((at' m.P i).length:Int)))
        (((0:Int)<=i/\i<(m.P.length:Int))/\
        ((0:Int)<=j/\j<((at' m.P i).length:Int))/\
        aG (decide (4<(((at' (at' m.P i) j).Num).length:Int)))
         (Q true)
         (((0:Int)<=i/\i<(m.P.length:Int))/\
         ((0:Int)<=j/\j<((at' m.P i).length:Int))/\
         aG (decide (4<(((at' (at' m.P i) j).Den).length:Int)))
          (Q true)
          (rng (j+1)/\
          next2 (j+1))))
        (rng (i+1)/\
        next1 (i+1))))
     (nP m λr=>
     aG (r == 0)
      (jV m λr1=>
      aG (decide (300<r1))
       (jV m λr2=>
       Q (decide (r2<=4096)))
       (Q false))
      (Q false))))
def yM (m:GMission) (Q:Bool->Prop):Prop:=
 nP m λr=>
 aG (r == 0)
  (jV m λr1=>
  Q (decide (4096<r1)))
  (Q false)
def zE (m:GMission) (Q:Int->Prop):Prop:=
 tZ m λ_ _ r2=>
 Q r2
def rL (m:GMission) (Q:Bool->Prop):Prop:=
 wW m λr=>
 aG (!r)
  (nP m λr1=>
  aG (r1 == 0)
   (yM m λr2=>
   aG (!r2)
    (zE m λr3=>
    Q (r3 == 0))
    (Q false))
   (Q false))
  (Q false)
end Go.Gg
namespace Go.Gg
def sX (m:GMission) (Q:Bool->Prop):Prop:=
 gG (α:=Bool) (λnext2=>
  lR λr12=>
  aG (!r12)
   (next2 true)
   (rL m λr13=>
   next2 (!r13)))
  λx=>
  aG x
   (lR λr=>
   Q r)
   (kC m λr1 r2=>
   jR m λr3 r4=>
   aG (Option.isSome r2)
    (Q false)
    (aG (Option.isSome r4)
     (Q false)
     (aG ((r1.length:Int) != (m.Phases.length:Int))
      (Q false)
      (bX (σ:=Int×GRat) (0,(⟨false,[],[]⟩:GRat)) λ⟨j,x1⟩ next1=>
       aG (decide (j<(r1.length:Int)))
        (pW m j λr5 r6=>
        ((0:Int)<=j/\j<(r1.length:Int))/\
        iH (oU x1 (at' r1 j)) λr7=>
        aG (Option.isSome r6)
         (Q false)
         (((0:Int)<=j/\j<(r1.length:Int))/\
         kU (at' r1 j) λr8=>
         aG (decide (r8<0))
          (Q false)
          (kO r7 r5 λr9=>
          aG (r9 != 0)
           (Q false)
           (rng (j+1)/\
           next1 ((j+1),r7)))))
        (kO x1 r3 λr10=>
        aG (r10 == 0)
         (tC r3 λr11=>
         Q r11)
         (Q false))))))
end Go.Gg
namespace Go.Gg
def rW (m:GMission) (Q:Bool->Prop):Prop:=
 gG (α:=Bool) (λnext2=>
  lR λr8=>
  aG (!r8)
   (next2 true)
   (rL m λr9=>
   next2 (!r9)))
  λx=>
  aG x
   (lR λr=>
   Q r)
   (lN m 0 λr1 r2=>
   aG (Option.isSome r2)
    (Q false)
    (aG ((r1.Phases.length:Int) != 1)
     (Q false)
     (bX (σ:=Int×(List GRat)) (0,[]) λ⟨i,p⟩ next1=>
      aG (decide (i<(r1.P.length:Int)))
       (((0:Int)<=i/\i<(r1.P.length:Int))/\
       aG (((at' r1.P i).length:Int) != 1)
        (Q false)
        (((0:Int)<=i/\i<(r1.P.length:Int))/\
        ((0:Int)<=0/\0<((at' r1.P i).length:Int))/\
        ((p++[(at' (at' r1.P i) 0)]).length*56<=140737488355328)/\
        rng (i+1)/\
        next1 ((i+1),(p++[(at' (at' r1.P i) 0)]))))
       (jR r1 λr3 r4=>
       ((0:Int)<=0/\0<(r1.Phases.length:Int))/\
       rC (at' r1.Phases 0) p λr5 r6=>
       aG (Option.isNone r4)
        (aG (Option.isNone r6)
         (kO r3 r5 λr7=>
         Q (r7 == 0))
         (Q false))
        (Q false)))))
end Go.Gg
