/- The structures of the program and how they are encoded. Conditions: none. -/
import Derived.Test.YtnjgdkfhgmebjaaGreatGc
import Derived.Test.YtnjgdkfhgmebjaaGreatGf
import Derived.Test.YtnjgdkfhgmebjaaGreatGd
namespace Go.Gg
structure GNode where
 Kind:Int
 K:Int
 Args:List Int
instance:Inhabited GNode:=⟨⟨0,0,[]⟩⟩
def aR (r:GNode):AV:=.agg [.int .i64 r.Kind,.int .i64 r.K,eL (AV.int .i64) r.Args]
structure GFormula where
 Vars:Int
 Nodes:List GNode
 Top:Int
instance:Inhabited GFormula:=⟨⟨0,[],0⟩⟩
def ak (r:GFormula):AV:=.agg [.int .i64 r.Vars,eL aR r.Nodes,.int .i64 r.Top]
structure GRat where
 Neg:Bool
 Num:List Int
 Den:List Int
instance:Inhabited GRat:=⟨⟨false,[],[]⟩⟩
def aq (r:GRat):AV:=.agg [.bool r.Neg,eL (AV.int .u32) r.Num,eL (AV.int .u32) r.Den]
structure GCauseGroup where
 Kind:Int
 Members:List Int
 Factors:List GRat
instance:Inhabited GCauseGroup:=⟨⟨0,[],[]⟩⟩
structure GCauses where
 P:List GRat
 Groups:List GCauseGroup
instance:Inhabited GCauses:=⟨⟨[],[]⟩⟩
structure GMission where
 Phases:List GFormula
 P:List (List GRat)
instance:Inhabited GMission:=⟨⟨[],[]⟩⟩
def ar (r:GMission):AV:=.agg [eL ak r.Phases,eL (eL aq) r.P]
structure GCube where
 Yes:Int
 No:Int
instance:Inhabited GCube:=⟨⟨0,0⟩⟩
structure Gcause where
 p:GRat
 members:List Int
instance:Inhabited Gcause:=⟨⟨default,[]⟩⟩
structure GDNode where
 Var:Int
 Lo:Int
 Hi:Int
instance:Inhabited GDNode:=⟨⟨0,0,0⟩⟩
def aY (r:GDNode):AV:=.agg [.int .i64 r.Var,.int .i64 r.Lo,.int .i64 r.Hi]
structure GDiagram where
 Order:List Int
 Nodes:List GDNode
 Root:Int
instance:Inhabited GDiagram:=⟨⟨[],[],0⟩⟩
def fO (r:GDiagram):AV:=.agg [eL (AV.int .i64) r.Order,eL aY r.Nodes,.int .i64 r.Root]
structure GZero where
 Nodes:List GDNode
 Root:Int
instance:Inhabited GZero:=⟨⟨[],0⟩⟩
structure Gtable where
 events:List Int
 true:List Bool
instance:Inhabited Gtable:=⟨⟨[],[]⟩⟩
structure Gwalk where
 Formula:GFormula
 events:List Int
 seen:List Bool
instance:Inhabited Gwalk:=⟨⟨default,[],[]⟩⟩
structure GsetsKey where
 op:Int
 a:Int
 b:Int
instance:Inhabited GsetsKey:=⟨⟨0,0,0⟩⟩
end Go.Gg
namespace Go.Gg
def hY:ByteArray:=⟨#[0,1,2,2,3,3,3,3,4,4,4,4,4,4,4,4,5,5,5,5,5,5,5,5,5,5,5,5,5,5,5,5,6,6,6,6,6,6,6,6,6,6,6,6,6,6,6,6,6,6,6,6,6,6,6,6,6,6,6,6,6,6,6,6,7,7,7,7,7,7,7,7,7,7,7,7,7,7,7,7,7,7,7,7,7,7,7,7,7,7,7,7,7,7,7,7,7,7,7,7,7,7,7,7,7,7,7,7,7,7,7,7,7,7,7,7,7,7,7,7,7,7,7,7,7,7,7,7,8,8,8,8,8,8,8,8,8,8,8,8,8,8,8,8,8,8,8,8,8,8,8,8,8,8,8,8,8,8,8,8,8,8,8,8,8,8,8,8,8,8,8,8,8,8,8,8,8,8,8,8,8,8,8,8,8,8,8,8,8,8,8,8,8,8,8,8,8,8,8,8,8,8,8,8,8,8,8,8,8,8,8,8,8,8,8,8,8,8,8,8,8,8,8,8,8,8,8,8,8,8,8,8,8,8,8,8,8,8,8,8,8,8,8,8,8,8,8,8,8,8,8,8,8,8,8,8]⟩
def ca (a:List Int) (Q:List Int->Prop):Prop:=
 dA (α:=Int) (λnext1=>
  bj (σ:=Int) (a.length:Int) λn1 next2=>
   an (decide (0<n1))
    (rng (n1-1)/\
    ((0:Int)<=(n1-1)/\(n1-1)<(a.length:Int))/\
    an ((at' a (n1-1)) == 0)
     (rng (n1-1)/\
     next2 (n1-1))
     (next1 n1))
    (next1 n1))
  λn=>
  an (n == 0)
   (Q [])
   (((0:Int)<=0/\0<=n/\n<=(a.length:Int))/\
   (([]++(bH a 0 n)).length*4<=140737488355328)/\
   Q ([]++(bH a 0 n)))
def dQ (a:List Int) (b:List Int) (Q:Int->Prop):Prop:=
 ca a λa1=>
 ca b λb1=>
 an ((a1.length:Int) != (b1.length:Int))
  (an (decide ((a1.length:Int)<(b1.length:Int)))
   (Q (-1))
   (Q 1))
  (rng ((a1.length:Int)-1)/\
  bj (σ:=Int) ((a1.length:Int)-1) λi next1=>
   an (decide (0<=i))
    (((0:Int)<=i/\i<(a1.length:Int))/\
    ((0:Int)<=i/\i<(b1.length:Int))/\
    an (decide ((at' a1 i)<(at' b1 i)))
     (Q (-1))
     (((0:Int)<=i/\i<(a1.length:Int))/\
     ((0:Int)<=i/\i<(b1.length:Int))/\
     an (decide ((at' b1 i)<(at' a1 i)))
      (Q 1)
      (rng (i-1)/\
      next1 (i-1))))
    (Q 0))
def kR (n:Int) (Q:List Int->Prop):Prop:=
 an (decide (n<=0))
  (Q [])
  (ca [(IntKind.wrap .u32 n),(IntKind.wrap .u32 (n / 2^(Int.toNat 32)))] λr=>
  Q r)
def iL (a:List Int) (b:Int) (Q:List Int->Int->Prop):Prop:=
 kg 4 (a.length:Int) (a.length:Int)/\
 rng ((a.length:Int)-1)/\
 bj (σ:=Int×Int×(List Int)) (0,((a.length:Int)-1),(bS (a.length:Int) 0)) λ⟨rest,i,out⟩ next1=>
  an (decide (0<=i))
   (((0:Int)<=i/\i<(a.length:Int))/\
   kN (bits .or .u64 (IntKind.wrap .u64 (rest*2^(Int.toNat 32))) (IntKind.wrap .u64 (at' a i))) λrest1=>
   (IntKind.wrap .u64 b)≠0/\
   ((0:Int)<=i/\i<(out.length:Int))/\
   (IntKind.wrap .u64 b)≠0/\
   rng (i-1)/\
   next1 ((Int.tmod rest1 (IntKind.wrap .u64 b)),(i-1),(bw out i (IntKind.wrap .u32 (IntKind.wrap .u64 (Int.tdiv rest1 (IntKind.wrap .u64 b)))))))
   (ca out λr=>
   Q r (IntKind.wrap .u32 rest))
def gE (x:Int) (Q:Int->Prop):Prop:=
 dA (α:=Int×Int) (λnext2=>
  an (decide (65536<=x))
   (next2 ((x / 2^(Int.toNat 16)),16))
   (next2 (x,0)))
  λ⟨x1,n⟩=>
  dA (α:=Int×Int) (λnext1=>
   an (decide (256<=x1))
    (rng (n+8)/\
    next1 ((x1 / 2^(Int.toNat 8)),(n+8)))
    (next1 (x1,n)))
   λ⟨x2,n1⟩=>
   ((0:Int)<=(IntKind.wrap .u8 x2)/\(IntKind.wrap .u8 x2)<(hY.size:Int))/\
   rng (n1+(IntKind.wrap .i64 (qG hY (Int.toNat (IntKind.wrap .u8 x2)))))/\
   kN (n1+(IntKind.wrap .i64 (qG hY (Int.toNat (IntKind.wrap .u8 x2))))) λn2=>
   Q n2
def eX (x:Int) (Q:Int->Prop):Prop:=
 gE x λr=>
 rng (32-r)/\
 Q (32-r)
def eW (a:List Int) (n:Int) (Q:List Int->Prop):Prop:=
 rng ((a.length:Int)+1)/\
 kg 4 ((a.length:Int)+1) ((a.length:Int)+1)/\
 bj (σ:=Int×(List Int)) (0,(bS ((a.length:Int)+1) 0)) λ⟨x,out⟩ next1=>
  an (decide (x<(a.length:Int)))
   (((0:Int)<=x/\x<(a.length:Int))/\
   ((0:Int)<=n/\n<=64)/\
   kN (IntKind.wrap .u64 ((IntKind.wrap .u64 (at' a x))*2^(Int.toNat n))) λy1=>
   ((0:Int)<=x/\x<(out.length:Int))/\
   ((0:Int)<=x/\x<(out.length:Int))/\
   rng (x+1)/\
   ((0:Int)<=(x+1)/\(x+1)<(out.length:Int))/\
   rng (x+1)/\
   next1 ((x+1),(bw (bw out x (bits .or .u32 (at' out x) (IntKind.wrap .u32 y1))) (x+1) (IntKind.wrap .u32 (y1 / 2^(Int.toNat 32))))))
   (Q out)
def c6 (a:List Int) (i:Int) (Q:Int->Prop):Prop:=
 an (decide (i<(a.length:Int)))
  (((0:Int)<=i/\i<(a.length:Int))/\
  Q (IntKind.wrap .u64 (at' a i)))
  (Q 0)
def lR (u:List Int) (uo:Nat) (ul:Nat) (v:List Int) (n:Int) (Q:List Int->Bool->Prop):Prop:=
 bj (σ:=Int×Int×Int×(List Int)) (0,0,0,u) λ⟨carry,borrow,x,u1⟩ next1=>
  an (decide (x<(ul:Int)))
   (c6 v x λr=>
   kN (IntKind.wrap .u64 (carry+(IntKind.wrap .u64 (n*r)))) λcarry1=>
   ((0:Int)<=x/\x<(ul:Int))/\
   (Int.toNat ((uo:Int)+x))<u1.length/\
   kN (IntKind.wrap .u64 ((IntKind.wrap .u64 ((IntKind.wrap .u64 (at' u1 ((uo:Int)+x)))-(IntKind.wrap .u64 (IntKind.wrap .u32 carry1))))-borrow)) λd=>
   ((0:Int)<=x/\x<(ul:Int))/\
   (Int.toNat ((uo:Int)+x))<u1.length/\
   rng (x+1)/\
   next1 ((carry1 / 2^(Int.toNat 32)),(d / 2^(Int.toNat 63)),(x+1),(bw u1 ((uo:Int)+x) (IntKind.wrap .u32 d))))
   (Q u1 (borrow == 1))
def lS (u:List Int) (uo:Nat) (ul:Nat) (v:List Int) (Q:List Int->Prop):Prop:=
 bj (σ:=Int×Int×(List Int)) (0,0,u) λ⟨carry,x,u1⟩ next1=>
  an (decide (x<(ul:Int)))
   (((0:Int)<=x/\x<(ul:Int))/\
   (Int.toNat ((uo:Int)+x))<u1.length/\
   cR (c6 v x) λr=>
   ((0:Int)<=x/\x<(ul:Int))/\
   (Int.toNat ((uo:Int)+x))<u1.length/\
   kN ((IntKind.wrap .u64 (carry+(IntKind.wrap .u64 ((IntKind.wrap .u64 (at' u1 ((uo:Int)+x)))+r)))) / 2^(Int.toNat 32)) λcarry1=>
   rng (x+1)/\
   next1 (carry1,(x+1),(bw u1 ((uo:Int)+x) (IntKind.wrap .u32 (IntKind.wrap .u64 (carry+(IntKind.wrap .u64 ((IntKind.wrap .u64 (at' u1 ((uo:Int)+x)))+r))))))))
   (Q u1)
def iM (a:List Int) (n:Int) (Q:List Int->Prop):Prop:=
 kg 4 (a.length:Int) (a.length:Int)/\
 bj (σ:=Int×(List Int)) (0,(bS (a.length:Int) 0)) λ⟨x,out⟩ next1=>
  an (decide (x<(a.length:Int)))
   (c6 a x λr=>
   rng (x+1)/\
   c6 a (x+1) λr1=>
   ((0:Int)<=n/\n<=64)/\
   ((0:Int)<=x/\x<(out.length:Int))/\
   rng (x+1)/\
   next1 ((x+1),(bw out x (IntKind.wrap .u32 ((bits .or .u64 r (IntKind.wrap .u64 (r1*2^(Int.toNat 32)))) / 2^(Int.toNat n))))))
   (Q out)
def iE (a:List Int) (b:List Int) (Q:List Int->List Int->Option Int->Prop):Prop:=
 ca a λa1=>
 ca b λb1=>
 an ((b1.length:Int) == 0)
  (Q [] [] (some 8))
  (dQ a1 b1 λr=>
  an (decide (r<0))
   (Q [] a1 none)
   (an ((b1.length:Int) == 1)
    (((0:Int)<=0/\0<(b1.length:Int))/\
    iL a1 (at' b1 0) λr1 r2=>
    kR (IntKind.wrap .i64 r2) λr3=>
    Q r1 r3 none)
    (rng ((b1.length:Int)-1)/\
    ((0:Int)<=((b1.length:Int)-1)/\((b1.length:Int)-1)<(b1.length:Int))/\
    eX (at' b1 ((b1.length:Int)-1)) λn=>
    eW b1 n λr4=>
    ((0:Int)<=0/\0<=(b1.length:Int)/\(b1.length:Int)<=(r4.length:Int))/\
    kN (bH r4 0 (b1.length:Int)) λv=>
    eW a1 n λu=>
    rng ((v.length:Int)-1)/\
    ((0:Int)<=((v.length:Int)-1)/\((v.length:Int)-1)<(v.length:Int))/\
    rng ((v.length:Int)-2)/\
    ((0:Int)<=((v.length:Int)-2)/\((v.length:Int)-2)<(v.length:Int))/\
    rng ((u.length:Int)-(v.length:Int))/\
    kg 4 ((u.length:Int)-(v.length:Int)) ((u.length:Int)-(v.length:Int))/\
    rng (((Int.toNat ((u.length:Int)-(v.length:Int))):Int)-1)/\
    kN (((Int.toNat ((u.length:Int)-(v.length:Int))):Int)-1) λj=>
    bj (σ:=Int×(List Int)×(List Int)) (j,u,(bS ((u.length:Int)-(v.length:Int)) 0)) λ⟨j1,u1,q⟩ next1=>
     an (decide (0<=j1))
      (rng (j1+(v.length:Int))/\
      ((0:Int)<=(j1+(v.length:Int))/\(j1+(v.length:Int))<(u1.length:Int))/\
      rng (j1+(v.length:Int))/\
      rng ((j1+(v.length:Int))-1)/\
      ((0:Int)<=((j1+(v.length:Int))-1)/\((j1+(v.length:Int))-1)<(u1.length:Int))/\
      (IntKind.wrap .u64 (at' v ((v.length:Int)-1)))≠0/\
      (IntKind.wrap .u64 (at' v ((v.length:Int)-1)))≠0/\
      dA (α:=Int) (λnext3=>
       bj (σ:=Int×Int) ((IntKind.wrap .u64 (Int.tdiv (bits .or .u64 (IntKind.wrap .u64 ((IntKind.wrap .u64 (at' u1 (j1+(v.length:Int))))*2^(Int.toNat 32))) (IntKind.wrap .u64 (at' u1 ((j1+(v.length:Int))-1)))) (IntKind.wrap .u64 (at' v ((v.length:Int)-1))))),(Int.tmod (bits .or .u64 (IntKind.wrap .u64 ((IntKind.wrap .u64 (at' u1 (j1+(v.length:Int))))*2^(Int.toNat 32))) (IntKind.wrap .u64 (at' u1 ((j1+(v.length:Int))-1)))) (IntKind.wrap .u64 (at' v ((v.length:Int)-1))))) λ⟨guess2,rest⟩ next4=>
        dA (α:=Unit) (λnext5=>
         an (decide (4294967296<=guess2))
          (next5 ())
          (rng (j1+(v.length:Int))/\
          rng ((j1+(v.length:Int))-2)/\
          ((0:Int)<=((j1+(v.length:Int))-2)/\((j1+(v.length:Int))-2)<(u1.length:Int))/\
          an (decide ((bits .or .u64 (IntKind.wrap .u64 (rest*2^(Int.toNat 32))) (IntKind.wrap .u64 (at' u1 ((j1+(v.length:Int))-2))))<(IntKind.wrap .u64 (guess2*(IntKind.wrap .u64 (at' v ((v.length:Int)-2)))))))
           (next5 ())
           (next3 guess2)))
         λ_=>
         kN (IntKind.wrap .u64 (rest+(IntKind.wrap .u64 (at' v ((v.length:Int)-1))))) λrest1=>
         an (decide (4294967296<=rest1))
          (next3 (IntKind.wrap .u64 (guess2-1)))
          (next4 ((IntKind.wrap .u64 (guess2-1)),rest1)))
       λguess=>
       dA (α:=Int×(List Int)) (λnext2=>
        rng (j1+(v.length:Int))/\
        rng ((j1+(v.length:Int))+1)/\
        ((0:Int)<=j1/\j1<=((j1+(v.length:Int))+1)/\((j1+(v.length:Int))+1)<=(u1.length:Int))/\
        lR u1 (0+Int.toNat j1) (Int.toNat ((j1+(v.length:Int))+1)-Int.toNat j1) v guess λu3 r5=>
        u3.length=u1.length/\
        an r5
         (rng (j1+(v.length:Int))/\
         rng ((j1+(v.length:Int))+1)/\
         ((0:Int)<=j1/\j1<=((j1+(v.length:Int))+1)/\((j1+(v.length:Int))+1)<=(u1.length:Int))/\
         lS u3 (0+Int.toNat j1) (Int.toNat ((j1+(v.length:Int))+1)-Int.toNat j1) v λu4=>
         u4.length=u3.length/\
         next2 ((IntKind.wrap .u64 (guess-1)),u4))
         (next2 (guess,u3)))
        λ⟨guess1,u2⟩=>
        ((0:Int)<=j1/\j1<(q.length:Int))/\
        rng (j1-1)/\
        next1 ((j1-1),u2,(bw q j1 (IntKind.wrap .u32 guess1))))
      (ca q λq1=>
      iM u1 n λr6=>
      ca r6 λr7=>
      Q q1 r7 none))))
def jX (a:List Int) (b:List Int) (Q:List Int->Prop):Prop:=
 ca a λa1=>
 ca b λb1=>
 bj (σ:=(List Int)×(List Int)) (a1,b1) λ⟨a2,b2⟩ next1=>
  an (decide (0<(b2.length:Int)))
   (iE a2 b2 λ_ r1 _=>
   next1 (b2,r1))
   (Q a2)
def eM (a:List Int) (b:List Int) (Q:List Int->Prop):Prop:=
 rng ((a.length:Int)+(b.length:Int))/\
 kg 4 ((a.length:Int)+(b.length:Int)) ((a.length:Int)+(b.length:Int))/\
 bj (σ:=Int×(List Int)) (0,(bS ((a.length:Int)+(b.length:Int)) 0)) λ⟨x,out⟩ next1=>
  an (decide (x<(a.length:Int)))
   (((0:Int)<=x/\x<(a.length:Int))/\
   bj (σ:=Int×Int×(List Int)) (0,0,out) λ⟨carry,x1,out1⟩ next2=>
    an (decide (x1<(b.length:Int)))
     (((0:Int)<=x1/\x1<(b.length:Int))/\
     rng (x+x1)/\
     ((0:Int)<=(x+x1)/\(x+x1)<(out1.length:Int))/\
     kN (IntKind.wrap .u64 (carry+(IntKind.wrap .u64 ((IntKind.wrap .u64 ((IntKind.wrap .u64 (at' a x))*(IntKind.wrap .u64 (at' b x1))))+(IntKind.wrap .u64 (at' out1 (x+x1))))))) λcarry1=>
     rng (x+x1)/\
     ((0:Int)<=(x+x1)/\(x+x1)<(out1.length:Int))/\
     rng (x1+1)/\
     next2 ((carry1 / 2^(Int.toNat 32)),(x1+1),(bw out1 (x+x1) (IntKind.wrap .u32 carry1))))
     (rng (x+(b.length:Int))/\
     ((0:Int)<=(x+(b.length:Int))/\(x+(b.length:Int))<(out1.length:Int))/\
     rng (x+1)/\
     next1 ((x+1),(bw out1 (x+(b.length:Int)) (IntKind.wrap .u32 carry)))))
   (ca out λr=>
   Q r)
def lT (a:List Int) (Q:Int->Prop):Prop:=
 rng ((a.length:Int)-1)/\
 bj (σ:=Int) ((a.length:Int)-1) λi next1=>
  an (decide (0<=i))
   (((0:Int)<=i/\i<(a.length:Int))/\
   an ((at' a i) != 0)
    (rng (32*i)/\
    ((0:Int)<=i/\i<(a.length:Int))/\
    gE (at' a i) λr=>
    rng ((32*i)+r)/\
    Q ((32*i)+r))
    (rng (i-1)/\
    next1 (i-1)))
   (Q 0)
def jY (a:List Int) (b:List Int) (Q:List Int->Prop):Prop:=
 rng ((max (a.length:Int) (b.length:Int))+1)/\
 kg 4 ((max (a.length:Int) (b.length:Int))+1) ((max (a.length:Int) (b.length:Int))+1)/\
 bj (σ:=Int×Int×(List Int)) (0,0,(bS ((max (a.length:Int) (b.length:Int))+1) 0)) λ⟨carry,x,out⟩ next1=>
  an (decide (x<((Int.toNat ((max (a.length:Int) (b.length:Int))+1)):Int)))
   (c6 a x λr=>
   c6 b x λr1=>
   kN (IntKind.wrap .u64 (carry+(IntKind.wrap .u64 (r+r1)))) λcarry1=>
   ((0:Int)<=x/\x<(out.length:Int))/\
   rng (x+1)/\
   next1 ((carry1 / 2^(Int.toNat 32)),(x+1),(bw out x (IntKind.wrap .u32 carry1))))
   (ca out λr2=>
   Q r2)
def jW (a:List Int) (b:List Int) (Q:List Int->Option Int->Prop):Prop:=
 dQ a b λr=>
 an (decide (r<0))
  (Q [] (some 3))
  (kg 4 (a.length:Int) (a.length:Int)/\
  bj (σ:=Int×Int×(List Int)) (0,0,(bS (a.length:Int) 0)) λ⟨borrow,x,out⟩ next1=>
   an (decide (x<((Int.toNat (a.length:Int)):Int)))
    (c6 a x λr1=>
    c6 b x λr2=>
    kN (IntKind.wrap .u64 ((IntKind.wrap .u64 (r1-r2))-borrow)) λd=>
    ((0:Int)<=x/\x<(out.length:Int))/\
    rng (x+1)/\
    next1 ((d / 2^(Int.toNat 63)),(x+1),(bw out x (IntKind.wrap .u32 d))))
    (ca out λr3=>
    Q r3 none))
def ji (a:List Int) (Q:Int->Prop):Prop:=
 bj (σ:=Int×Int) (0,0) λ⟨n,x⟩ next1=>
  an (decide (x<(a.length:Int)))
   (((0:Int)<=x/\x<(a.length:Int))/\
   bj (σ:=Int×Int) (n,0) λ⟨n1,x1⟩ next2=>
    an (decide (x1<32))
     (((0:Int)<=x1/\x1<=32)/\
     an ((bits .and .u32 ((at' a x) / 2^(Int.toNat x1)) 1) == 1)
      (rng (32*x)/\
      rng ((32*x)+x1)/\
      rng (((32*x)+x1)+1)/\
      rng (x1+1)/\
      next2 ((((32*x)+x1)+1),(x1+1)))
      (rng (x1+1)/\
      next2 (n1,(x1+1))))
     (rng (x+1)/\
     next1 (n1,(x+1))))
   (Q n)
def c7 (a:List Int) (Q:List Int->Prop):Prop:=
 dA (α:=Int) (λnext1=>
  bj (σ:=Int) (a.length:Int) λn1 next2=>
   an (decide (0<n1))
    (rng (n1-1)/\
    ((0:Int)<=(n1-1)/\(n1-1)<(a.length:Int))/\
    an ((at' a (n1-1)) == 0)
     (rng (n1-1)/\
     next2 (n1-1))
     (next1 n1))
    (next1 n1))
  λn=>
  ((0:Int)<=0/\0<=n/\n<=(a.length:Int))/\
  (([]++(bH a 0 n)).length*4<=140737488355328)/\
  Q ([]++(bH a 0 n))
def cq (a:List Int) (i:Int) (Q:Int->Prop):Prop:=
 an (decide (i<(a.length:Int)))
  (((0:Int)<=i/\i<(a.length:Int))/\
  Q (IntKind.wrap .u64 (at' a i)))
  (Q 0)
def fx (a:List Int) (b:List Int) (Q:List Int->Prop):Prop:=
 rng ((a.length:Int)+(b.length:Int))/\
 rng (((a.length:Int)+(b.length:Int))+1)/\
 kg 4 (((a.length:Int)+(b.length:Int))+1) (((a.length:Int)+(b.length:Int))+1)/\
 bj (σ:=Int×(List Int)) (0,(bS (((a.length:Int)+(b.length:Int))+1) 0)) λ⟨x,out⟩ next1=>
  an (decide (x<(a.length:Int)))
   (((0:Int)<=x/\x<(a.length:Int))/\
   rng ((b.length:Int)+1)/\
   bj (σ:=Int×Int×(List Int)) (0,0,out) λ⟨carry,x1,out1⟩ next2=>
    an (decide (x1<((b.length:Int)+1)))
     (cR (cq b x1) λr=>
     rng (x+x1)/\
     ((0:Int)<=(x+x1)/\(x+x1)<(out1.length:Int))/\
     rng (x+x1)/\
     ((0:Int)<=(x+x1)/\(x+x1)<(out1.length:Int))/\
     kN ((IntKind.wrap .u64 ((IntKind.wrap .u64 ((IntKind.wrap .u64 ((IntKind.wrap .u64 (at' a x))*r))+(IntKind.wrap .u64 (at' out1 (x+x1)))))+carry)) / 2^(Int.toNat 32)) λcarry1=>
     rng (x1+1)/\
     next2 (carry1,(x1+1),(bw out1 (x+x1) (IntKind.wrap .u32 (IntKind.wrap .u64 ((IntKind.wrap .u64 ((IntKind.wrap .u64 ((IntKind.wrap .u64 (at' a x))*r))+(IntKind.wrap .u64 (at' out1 (x+x1)))))+carry))))))
     (rng (x+1)/\
     next1 ((x+1),out1)))
   (c7 out λr1=>
   Q r1)
def i4 (a:List Int) (b:List Int) (Q:Int->Prop):Prop:=
 rng ((max (a.length:Int) (b.length:Int))-1)/\
 kN ((max (a.length:Int) (b.length:Int))-1) λi=>
 bj (σ:=Int) i λi1 next1=>
  an (decide (0<=i1))
   (cq a i1 λr=>
   cq b i1 λr1=>
   an (decide (r<r1))
    (Q (-1))
    (cq a i1 λr2=>
    cq b i1 λr3=>
    an (decide (r3<r2))
     (Q 1)
     (rng (i1-1)/\
     next1 (i1-1))))
   (Q 0)
def j_ (a:List Int) (b:List Int) (Q:List Int->Int->Prop):Prop:=
 i4 a b λr=>
 an (decide (r<0))
  (Q [] 3)
  (bj (σ:=Int×Int×(List Int)) (0,0,[]) λ⟨borrow,x,out⟩ next1=>
   an (decide (x<(a.length:Int)))
    (cq a x λr1=>
    cq b x λr2=>
    kN (IntKind.wrap .u64 ((IntKind.wrap .u64 (r1-r2))-borrow)) λs=>
    ((out++[(IntKind.wrap .u32 s)]).length*4<=140737488355328)/\
    rng (x+1)/\
    next1 ((s / 2^(Int.toNat 63)),(x+1),(out++[(IntKind.wrap .u32 s)])))
    (c7 out λr3=>
    Q r3 0))
def nP (a:List Int) (s:Int) (Q:List Int->Prop):Prop:=
 bj (σ:=Int×Int×(List Int)) (0,0,[]) λ⟨carry,x,out⟩ next1=>
  an (decide (x<(a.length:Int)))
   (((0:Int)<=x/\x<(a.length:Int))/\
   ((0:Int)<=s/\s<=64)/\
   kN (bits .or .u64 carry (IntKind.wrap .u64 ((IntKind.wrap .u64 (at' a x))*2^(Int.toNat s)))) λcarry1=>
   ((out++[(IntKind.wrap .u32 carry1)]).length*4<=140737488355328)/\
   rng (x+1)/\
   next1 ((carry1 / 2^(Int.toNat 32)),(x+1),(out++[(IntKind.wrap .u32 carry1)])))
   (((out++[(IntKind.wrap .u32 carry)]).length*4<=140737488355328)/\
   c7 (out++[(IntKind.wrap .u32 carry)]) λr=>
   Q r)
def kQ (a:List Int) (s:Int) (Q:List Int->Prop):Prop:=
 bj (σ:=Int×(List Int)) (0,[]) λ⟨x,out⟩ next1=>
  an (decide (x<(a.length:Int)))
   (cq a x λr=>
   rng (x+1)/\
   cq a (x+1) λr1=>
   ((0:Int)<=s/\s<=64)/\
   ((out++[(IntKind.wrap .u32 ((bits .or .u64 r (IntKind.wrap .u64 (r1*2^(Int.toNat 32)))) / 2^(Int.toNat s)))]).length*4<=140737488355328)/\
   rng (x+1)/\
   next1 ((x+1),(out++[(IntKind.wrap .u32 ((bits .or .u64 r (IntKind.wrap .u64 (r1*2^(Int.toNat 32)))) / 2^(Int.toNat s)))])))
   (c7 out λr2=>
   Q r2)
def ke (a:List Int) (b:List Int) (Q:List Int->List Int->Int->Prop):Prop:=
 c7 b λb1=>
 an ((b1.length:Int) == 0)
  (Q [] [] 8)
  (bj (σ:=Int) 0 λs next1=>
   rng ((b1.length:Int)-1)/\
   ((0:Int)<=((b1.length:Int)-1)/\((b1.length:Int)-1)<(b1.length:Int))/\
   ((0:Int)<=s/\s<=32)/\
   an ((bits .and .u32 (IntKind.wrap .u32 ((at' b1 ((b1.length:Int)-1))*2^(Int.toNat s))) 2147483648) == 0)
    (rng (s+1)/\
    next1 (s+1))
    (nP a s λa1=>
    nP b1 s λb2=>
    kg 4 (a1.length:Int) (a1.length:Int)/\
    rng ((a1.length:Int)-(b1.length:Int))/\
    rng (((a1.length:Int)-(b1.length:Int))+1)/\
    ((0:Int)<=(max 0 (((a1.length:Int)-(b1.length:Int))+1))/\(max 0 (((a1.length:Int)-(b1.length:Int))+1))<=(a1.length:Int)/\(a1.length:Int)<=(a1.length:Int))/\
    (([]++(bH a1 (max 0 (((a1.length:Int)-(b1.length:Int))+1)) (a1.length:Int))).length*4<=140737488355328)/\
    rng ((a1.length:Int)-(b1.length:Int))/\
    bj (σ:=(List Int)×Int×(List Int)) (([]++(bH a1 (max 0 (((a1.length:Int)-(b1.length:Int))+1)) (a1.length:Int))),((a1.length:Int)-(b1.length:Int)),(bS (a1.length:Int) 0)) λ⟨r,i,q⟩ next2=>
     an (decide (0<=i))
      (((0:Int)<=i/\i<(a1.length:Int))/\
      (([(at' a1 i)]++r).length*4<=140737488355328)/\
      c7 ([(at' a1 i)]++r) λr1=>
      cq r1 (b1.length:Int) λr2=>
      rng ((b1.length:Int)-1)/\
      cq r1 ((b1.length:Int)-1) λr3=>
      rng ((b1.length:Int)-1)/\
      cq b2 ((b1.length:Int)-1) λr4=>
      r4≠0/\
      kN (min (IntKind.wrap .u64 (Int.tdiv (bits .or .u64 (IntKind.wrap .u64 (r2*2^(Int.toNat 32))) r3) r4)) 4294967295) λguess=>
      fx b2 [(IntKind.wrap .u32 guess)] λp=>
      bj (σ:=Int×(List Int)) (guess,p) λ⟨guess1,p1⟩ next3=>
       i4 p1 r1 λr5=>
       an (decide (0<r5))
        (j_ p1 b2 λr6 _=>
        next3 ((IntKind.wrap .u64 (guess1-1)),r6))
        (j_ r1 p1 λr8 _=>
        ((0:Int)<=i/\i<(q.length:Int))/\
        rng (i-1)/\
        next2 (r8,(i-1),(bw q i (IntKind.wrap .u32 guess1)))))
      (c7 q λr10=>
      kQ r s λr11=>
      Q r10 r11 0)))
def mr (a:List Int) (b:List Int) (Q:List Int->Prop):Prop:=
 c7 a λa1=>
 c7 b λb1=>
 bj (σ:=(List Int)×(List Int)) (a1,b1) λ⟨a2,b2⟩ next1=>
  an (decide (0<(b2.length:Int)))
   (ke a2 b2 λ_ r1 _=>
   next1 (b2,r1))
   (Q a2)
def mu (a:List Int) (b:List Int) (Q:List Int->Prop):Prop:=
 rng ((max (a.length:Int) (b.length:Int))+1)/\
 bj (σ:=Int×Int×(List Int)) (0,0,[]) λ⟨carry,x,out⟩ next1=>
  an (decide (x<((max (a.length:Int) (b.length:Int))+1)))
   (cq a x λr=>
   cq b x λr1=>
   kN (IntKind.wrap .u64 ((IntKind.wrap .u64 (r+r1))+carry)) λs=>
   ((out++[(IntKind.wrap .u32 s)]).length*4<=140737488355328)/\
   rng (x+1)/\
   next1 ((s / 2^(Int.toNat 32)),(x+1),(out++[(IntKind.wrap .u32 s)])))
   (c7 out λr2=>
   Q r2)
end Go.Gg
namespace Go.Gg
def kX (a:List Int) (b:List Int) (Q:Bool->Prop):Prop:=
 an ((a.length:Int) != (b.length:Int))
  (Q false)
  (bj (σ:=Int) 0 λx next1=>
   an (decide (x<(a.length:Int)))
    (((0:Int)<=x/\x<(a.length:Int))/\
    ((0:Int)<=x/\x<(b.length:Int))/\
    an ((at' a x) != (at' b x))
     (Q false)
     (rng (x+1)/\
     next1 (x+1)))
    (Q true))
def ge (a:GRat) (b:GRat) (Q:Bool->Prop):Prop:=
 an (a.Neg == b.Neg)
  (kX a.Num b.Num λr=>
  an r
   (kX a.Den b.Den λr1=>
   Q r1)
   (Q false))
  (Q false)
def ku (a:List GRat) (b:List GRat) (Q:Bool->Prop):Prop:=
 an ((a.length:Int) != (b.length:Int))
  (Q false)
  (bj (σ:=Int) 0 λx next1=>
   an (decide (x<(a.length:Int)))
    (((0:Int)<=x/\x<(a.length:Int))/\
    ((0:Int)<=x/\x<(b.length:Int))/\
    cR (ge (at' a x) (at' b x)) λr=>
    an (!r)
     (Q false)
     (rng (x+1)/\
     next1 (x+1)))
    (Q true))
def jj (Q:List Int->Prop):Prop:=
 Q [1]
def h_ (a:List Int) (Q:Bool->Prop):Prop:=
 an (decide (0<(a.length:Int)))
  (rng ((a.length:Int)-1)/\
  ((0:Int)<=((a.length:Int)-1)/\((a.length:Int)-1)<(a.length:Int))/\
  Q ((at' a ((a.length:Int)-1)) != 0))
  (Q false)
def ia (a:GRat) (Q:Bool->Prop):Prop:=
 dA (α:=Bool) (λnext1=>
  an ((a.Num.length:Int) == 0)
   (next1 ((a.Den.length:Int) == 0))
   (next1 false))
  λx=>
  an x
   (Q (!a.Neg))
   (h_ a.Num λr=>
   an r
    (h_ a.Den λr1=>
    an r1
     (jX a.Num a.Den λr2=>
     jj λr3=>
     dQ r2 r3 λr4=>
     Q (r4 == 0))
     (Q false))
    (Q false))
def dI (a:GRat) (Q:Bool->List Int->List Int->Prop):Prop:=
 dA (α:=Bool) (λnext1=>
  ia a λr1=>
  an (!r1)
   (next1 true)
   (next1 ((a.Num.length:Int) == 0)))
  λx=>
  an x
   (jj λr=>
   Q false [] r)
   (Q a.Neg a.Num a.Den)
def c8 (neg:Bool) (num:List Int) (den:List Int) (Q:GRat->Prop):Prop:=
 lT num λr=>
 an (r == 0)
  (Q (⟨false,[],[]⟩:GRat))
  (jX num den λg2=>
  iE num g2 λr1 _ _=>
  iE den g2 λr4 _ _=>
  Q (⟨neg,r1,r4⟩:GRat))
def dW (a:GRat) (b:GRat) (Q:GRat->Prop):Prop:=
 dI a λr r1 r2=>
 dI b λr3 r4 r5=>
 eM r1 r5 λp=>
 eM r4 r2 λq=>
 eM r2 r5 λden=>
 an (r == r3)
  (jY p q λr6=>
  c8 r r6 den λr7=>
  Q r7)
  (dQ p q λr8=>
  an (decide (0<=r8))
   (jW p q λr9 _=>
   c8 r r9 den λr11=>
   Q r11)
   (jW q p λr12 _=>
   c8 r3 r12 den λr14=>
   Q r14))
def lP (a:GRat) (Q:GRat->Prop):Prop:=
 dI a λr r1 r2=>
 c8 (!r) r1 r2 λr3=>
 Q r3
def fH (a:GRat) (b:GRat) (Q:GRat->Prop):Prop:=
 cR (lP b) λr=>
 cR (dW a r) λr1=>
 Q r1
def kz (n:Int) (Q:List Int->Prop):Prop:=
 an (n == (-9223372036854775808))
  (Q [0,2147483648])
  (rng (-n)/\
  kR (max n (-n)) λr=>
  Q r)
def eK (n:Int) (Q:GRat->Prop):Prop:=
 kz n λr=>
 jj λr1=>
 c8 (decide (n<0)) r r1 λr2=>
 Q r2
def dV (a:GRat) (b:GRat) (Q:GRat->Prop):Prop:=
 dI a λr r1 r2=>
 dI b λr3 r4 r5=>
 eM r1 r4 λr6=>
 eM r2 r5 λr7=>
 c8 (r != r3) r6 r7 λr8=>
 Q r8
def iJ (a:GRat) (Q:Bool->Prop):Prop:=
 ia a λr=>
 an r
  (an (!a.Neg)
   (dQ a.Num a.Den λr1=>
   Q (decide (r1<=0)))
   (Q false))
  (Q false)
def fw (neg:Bool) (num:List Int) (den:List Int) (Q:GRat->Int->Prop):Prop:=
 ji den λr=>
 an (r == 0)
  (Q (⟨false,[],[]⟩:GRat) 8)
  (ji num λr1=>
  an (r1 == 0)
   (Q (⟨false,[],[]⟩:GRat) 0)
   (mr num den λg2=>
   ke num g2 λr2 _ _=>
   ke den g2 λr5 _ _=>
   Q (⟨neg,r2,r5⟩:GRat) 0))
def kO (n:Int) (Q:List Int->Prop):Prop:=
 dA (α:=Int) (λnext1=>
  an (decide (n<0))
   (kN (IntKind.wrap .u64 (0-(IntKind.wrap .u64 n))) λu1=>
   next1 u1)
   (next1 (IntKind.wrap .u64 n)))
  λu=>
  Q [(IntKind.wrap .u32 u),(IntKind.wrap .u32 (u / 2^(Int.toNat 32)))]
def kP (n:Int) (d:Int) (Q:GRat->Int->Prop):Prop:=
 kO n λr=>
 kO d λr1=>
 fw ((decide (n<0)) != (decide (d<0))) r r1 λr2 r3=>
 Q r2 r3
def iR (n:Int) (Q:GRat->Prop):Prop:=
 kP n 1 λr _=>
 Q r
def iA (a:GRat) (Q:Bool->Prop):Prop:=
 dA (α:=Bool) (λnext1=>
  an ((a.Num.length:Int) == 0)
   (next1 true)
   (next1 ((a.Den.length:Int) == 0)))
  λx=>
  an x
   (an ((a.Num.length:Int) == 0)
    (an ((a.Den.length:Int) == 0)
     (Q (!a.Neg))
     (Q false))
    (Q false))
   (rng ((a.Num.length:Int)-1)/\
   ((0:Int)<=((a.Num.length:Int)-1)/\((a.Num.length:Int)-1)<(a.Num.length:Int))/\
   an ((at' a.Num ((a.Num.length:Int)-1)) != 0)
    (rng ((a.Den.length:Int)-1)/\
    ((0:Int)<=((a.Den.length:Int)-1)/\((a.Den.length:Int)-1)<(a.Den.length:Int))/\
    an ((at' a.Den ((a.Den.length:Int)-1)) != 0)
     (mr a.Num a.Den λr=>
     ji r λr1=>
     Q (r1 == 1))
     (Q false))
    (Q false))
def eJ (a:GRat) (Q:Bool->List Int->List Int->Prop):Prop:=
 dA (α:=Bool) (λnext1=>
  iA a λr=>
  an (!r)
   (next1 true)
   (next1 ((a.Num.length:Int) == 0)))
  λx=>
  an x
   (Q false [] [1])
   (Q a.Neg a.Num a.Den)
def h9 (a:GRat) (Q:Int->Prop):Prop:=
 eJ a λr r1 _=>
 an ((r1.length:Int) == 0)
  (Q 0)
  (an r
   (Q (-1))
   (Q 1))
def gN (a:GRat) (b:GRat) (Q:GRat->Prop):Prop:=
 eJ a λr r1 r2=>
 eJ b λr3 r4 r5=>
 fx r1 r5 λx=>
 fx r4 r2 λy1=>
 fx r2 r5 λden=>
 an (r == r3)
  (mu x y1 λr6=>
  fw r r6 den λr7 _=>
  Q r7)
  (dA (α:=Bool×(List Int)×(List Int)) (λnext1=>
   i4 x y1 λr13=>
   an (decide (r13<0))
    (next1 (r3,y1,x))
    (next1 (r,x,y1)))
   λ⟨s,x1,y2⟩=>
   j_ x1 y2 λr9 _=>
   fw s r9 den λr11 _=>
   Q r11)
def oN (a:GRat) (Q:GRat->Prop):Prop:=
 eJ a λr r1 r2=>
 fw (!r) r1 r2 λr3 _=>
 Q r3
def i0 (a:GRat) (b:GRat) (Q:GRat->Prop):Prop:=
 cR (oN b) λr=>
 cR (gN a r) λr1=>
 Q r1
def j9 (a:GRat) (b:GRat) (Q:Int->Prop):Prop:=
 i0 a b λr=>
 h9 r λr1=>
 Q r1
def nN (a:GRat) (Q:Bool->Prop):Prop:=
 cR (iA a) λr=>
 an r
  (cR (h9 a) λr1=>
  an (decide (0<=r1))
   (cR (iR 1) λr2=>
   cR (j9 a r2) λr3=>
   Q (decide (r3<=0)))
   (Q false))
  (Q false)
def i2 (a:GRat) (b:GRat) (Q:GRat->Prop):Prop:=
 eJ a λr r1 r2=>
 eJ b λr3 r4 r5=>
 fx r1 r4 λr6=>
 fx r2 r5 λr7=>
 fw (r != r3) r6 r7 λr8 _=>
 Q r8
def gZ (err:Option Int) (Q:Int->Prop):Prop:=
 an (Option.isNone err)
  (Q 0)
  (an (Option.isSome err)
   (Q (Option.getD err 0))
   (Q (-1)))
def pg (a:List Int) (b:List Int) (Q:Bool->Prop):Prop:=
 an ((a.length:Int) != (b.length:Int))
  (Q false)
  (bj (σ:=Int) 0 λx next1=>
   an (decide (x<(a.length:Int)))
    (((0:Int)<=x/\x<(a.length:Int))/\
    ((0:Int)<=x/\x<(b.length:Int))/\
    an ((at' a x) != (at' b x))
     (Q false)
     (rng (x+1)/\
     next1 (x+1)))
    (Q true))
def l9 (a:GFormula) (b:GFormula) (Q:Bool->Prop):Prop:=
 an (a.Vars != b.Vars)
  (Q false)
  (an (a.Top != b.Top)
   (Q false)
   (an ((a.Nodes.length:Int) != (b.Nodes.length:Int))
    (Q false)
    (bj (σ:=Int) 0 λx next1=>
     an (decide (x<(a.Nodes.length:Int)))
      (((0:Int)<=x/\x<(a.Nodes.length:Int))/\
      ((0:Int)<=x/\x<(b.Nodes.length:Int))/\
      an ((at' a.Nodes x).Kind != (at' b.Nodes x).Kind)
       (Q false)
       (((0:Int)<=x/\x<(a.Nodes.length:Int))/\
       ((0:Int)<=x/\x<(b.Nodes.length:Int))/\
       an ((at' a.Nodes x).K != (at' b.Nodes x).K)
        (Q false)
        (((0:Int)<=x/\x<(a.Nodes.length:Int))/\
        ((0:Int)<=x/\x<(b.Nodes.length:Int))/\
        cR (pg ((at' a.Nodes x).Args) ((at' b.Nodes x).Args)) λr=>
        an (!r)
         (Q false)
         (rng (x+1)/\
         next1 (x+1)))))
      (Q true))))
end Go.Gg
namespace Go.Gg
def ir (kind:Int) (n:Int) (Q:Bool->Prop):Prop:=
 an (kind == 0)
  (Q (n == 0))
  (an (kind == 1)
   (Q (n == 1))
   (an (decide (1<=n))
    (Q (decide (n<=16)))
    (Q false)))
def iq (f:GFormula) (i:Int) (Q:Option Int->Prop):Prop:=
 ((0:Int)<=i/\i<(f.Nodes.length:Int))/\
 dA (α:=Bool) (λnext5=>
  an (decide ((at' f.Nodes i).Kind<0))
   (next5 true)
   (next5 (decide (5<(at' f.Nodes i).Kind))))
  λx=>
  an x
   (Q (some 7))
   (ir ((at' f.Nodes i).Kind) (((at' f.Nodes i).Args).length:Int) λr=>
   an (!r)
    (Q (some 11))
    (bj (σ:=Int) 0 λx1 next1=>
     an (decide (x1<(((at' f.Nodes i).Args).length:Int)))
      (((0:Int)<=x1/\x1<(((at' f.Nodes i).Args).length:Int))/\
      dA (α:=Bool) (λnext2=>
       an (decide ((at' ((at' f.Nodes i).Args) x1)<0))
        (next2 true)
        (rng (f.Vars+i)/\
        next2 (decide ((f.Vars+i)<=(at' ((at' f.Nodes i).Args) x1)))))
       λx2=>
       an x2
        (Q (some 10))
        (rng (x1+1)/\
        next1 (x1+1)))
      (an ((at' f.Nodes i).Kind == 0)
       (dA (α:=Bool) (λnext3=>
        an ((at' f.Nodes i).K != 0)
         (next3 ((at' f.Nodes i).K != 1))
         (next3 false))
        λx3=>
        an x3
         (Q (some 3))
         (Q none))
       (an ((at' f.Nodes i).Kind == 4)
        (dA (α:=Bool) (λnext4=>
         an (decide ((at' f.Nodes i).K<1))
          (next4 true)
          (next4 (decide ((((at' f.Nodes i).Args).length:Int)<(at' f.Nodes i).K))))
         λx4=>
         an x4
          (Q (some 3))
          (Q none))
        (an ((at' f.Nodes i).K != 0)
         (Q (some 2))
         (Q none))))))
def kI (f:GFormula) (arg:Int) (Q:Bool->Prop):Prop:=
 an (decide (0<=f.Vars))
  (an (decide (0<=arg))
   (an (decide (arg<f.Vars))
    (Q true)
    (rng (arg-f.Vars)/\
    Q (decide ((arg-f.Vars)<(f.Nodes.length:Int)))))
   (Q false))
  (Q false)
def du (f:GFormula) (Q:Option Int->Prop):Prop:=
 dA (α:=Bool) (λnext2=>
  an (decide (f.Vars<0))
   (next2 true)
   (next2 (decide (24<f.Vars))))
  λx=>
  an x
   (Q (some 3))
   (an (decide (128<(f.Nodes.length:Int)))
    (Q (some 4))
    (bj (σ:=Int) 0 λx1 next1=>
     an (decide (x1<(f.Nodes.length:Int)))
      (iq f x1 λe=>
      an (Option.isSome e)
       (Q e)
       (rng (x1+1)/\
       next1 (x1+1)))
      (kI f f.Top λr=>
      an (!r)
       (Q (some 10))
       (Q none))))
def nM (f:GFormula) (i:Int) (Q:Int->Prop):Prop:=
 ((0:Int)<=i/\i<(f.Nodes.length:Int))/\
 dA (α:=Int×Int) (λnext2=>
  an ((at' f.Nodes i).Kind == 0)
   (next2 (0,0))
   (an ((at' f.Nodes i).Kind == 1)
    (next2 (1,1))
    (an ((at' f.Nodes i).Kind == 2)
     (next2 (1,16))
     (an ((at' f.Nodes i).Kind == 3)
      (next2 (1,16))
      (an ((at' f.Nodes i).Kind == 4)
       (next2 (1,16))
       (an ((at' f.Nodes i).Kind == 5)
        (next2 (1,16))
        (Q 7)))))))
  λ⟨least,most⟩=>
  an (decide ((((at' f.Nodes i).Args).length:Int)<least))
   (Q 11)
   (an (decide (most<(((at' f.Nodes i).Args).length:Int)))
    (Q 11)
    (bj (σ:=Int) 0 λx next1=>
     an (decide (x<(((at' f.Nodes i).Args).length:Int)))
      (((0:Int)<=x/\x<(((at' f.Nodes i).Args).length:Int))/\
      an (decide ((at' ((at' f.Nodes i).Args) x)<0))
       (Q 10)
       (rng (f.Vars+i)/\
       an (decide ((f.Vars+i)<=(at' ((at' f.Nodes i).Args) x)))
        (Q 10)
        (rng (x+1)/\
        next1 (x+1))))
      (an ((at' f.Nodes i).Kind == 0)
       (an ((at' f.Nodes i).K != 0)
        (an ((at' f.Nodes i).K != 1)
         (Q 3)
         (Q 0))
        (Q 0))
       (an ((at' f.Nodes i).Kind == 4)
        (an (decide ((at' f.Nodes i).K<1))
         (Q 3)
         (an (decide ((((at' f.Nodes i).Args).length:Int)<(at' f.Nodes i).K))
          (Q 3)
          (Q 0)))
        (an ((at' f.Nodes i).K != 0)
         (Q 2)
         (Q 0))))))
def mR (f:GFormula) (arg:Int) (Q:Bool->Prop):Prop:=
 an (decide (0<=f.Vars))
  (an (decide (0<=arg))
   (an (decide (arg<f.Vars))
    (Q true)
    (rng (arg-f.Vars)/\
    Q (decide ((arg-f.Vars)<(f.Nodes.length:Int)))))
   (Q false))
  (Q false)
def mS (f:GFormula) (Q:Int->Prop):Prop:=
 an (decide (f.Vars<0))
  (Q 3)
  (an (decide (24<f.Vars))
   (Q 3)
   (an (decide (128<(f.Nodes.length:Int)))
    (Q 4)
    (bj (σ:=Int) 0 λx next1=>
     an (decide (x<(f.Nodes.length:Int)))
      (nM f x λe=>
      an (e != 0)
       (Q e)
       (rng (x+1)/\
       next1 (x+1)))
      (mR f f.Top λr=>
      an (!r)
       (Q 10)
       (Q 0)))))
def kG (f:GFormula) (failed:Int) (Q:Option Int->Prop):Prop:=
 du f λe=>
 an (Option.isSome e)
  (Q e)
  (dA (α:=Bool) (λnext1=>
   an (decide (failed<0))
    (next1 true)
    ((((0:Int)<=f.Vars/\f.Vars<=64)/\rng (1*2^(Int.toNat f.Vars)))/\
    next1 (decide ((1*2^(Int.toNat f.Vars))<=failed))))
   λx=>
   an x
    (Q (some 3))
    (Q none))
def jL (f:GFormula) (failed:Int) (Q:List Bool->Prop):Prop:=
 rng (f.Vars+(f.Nodes.length:Int))/\
 kg 1 f.Vars (f.Vars+(f.Nodes.length:Int))/\
 bj (σ:=Int×(List Bool)) (0,(bS f.Vars false)) λ⟨x,v⟩ next1=>
  an (decide (x<((Int.toNat f.Vars):Int)))
   (((0:Int)<=x/\x<=64)/\
   ((0:Int)<=x/\x<(v.length:Int))/\
   rng (x+1)/\
   next1 ((x+1),(bw v x ((bits .and .i64 (failed / 2^(Int.toNat x)) 1) == 1))))
   (bj (σ:=Int×(List Bool)) (0,v) λ⟨x1,v1⟩ next2=>
    an (decide (x1<(f.Nodes.length:Int)))
     (((0:Int)<=x1/\x1<(f.Nodes.length:Int))/\
     bj (σ:=Int×Int) (0,0) λ⟨n,x2⟩ next3=>
      an (decide (x2<(((at' f.Nodes x1).Args).length:Int)))
       (((0:Int)<=x2/\x2<(((at' f.Nodes x1).Args).length:Int))/\
       ((0:Int)<=(at' ((at' f.Nodes x1).Args) x2)/\(at' ((at' f.Nodes x1).Args) x2)<(v1.length:Int))/\
       an (at' v1 (at' ((at' f.Nodes x1).Args) x2))
        (rng (n+1)/\
        rng (x2+1)/\
        next3 ((n+1),(x2+1)))
        (rng (x2+1)/\
        next3 (n,(x2+1))))
       (dA (α:=Bool) (λnext4=>
        an ((at' f.Nodes x1).Kind == 0)
         (next4 ((at' f.Nodes x1).K == 1))
         (an ((at' f.Nodes x1).Kind == 1)
          (next4 (n == 0))
          (an ((at' f.Nodes x1).Kind == 2)
           (next4 (n == (((at' f.Nodes x1).Args).length:Int)))
           (an ((at' f.Nodes x1).Kind == 3)
            (next4 (decide (0<n)))
            (an ((at' f.Nodes x1).Kind == 4)
             (next4 (decide ((at' f.Nodes x1).K<=n)))
             (an ((at' f.Nodes x1).Kind == 5)
              (next4 ((Int.tmod n 2) == 1))
              (next4 false)))))))
        λis=>
        ((v1++[is]).length*1<=140737488355328)/\
        rng (x1+1)/\
        next2 ((x1+1),(v1++[is]))))
     (Q v1))
def kH (f:GFormula) (failed:Int) (Q:Bool->Option Int->Prop):Prop:=
 kG f failed λe=>
 an (Option.isSome e)
  (Q false e)
  (cR (jL f failed) λr=>
  ((0:Int)<=f.Top/\f.Top<(r.length:Int))/\
  Q (at' r f.Top) none)
def iO (f:GFormula) (Q:List Bool->Prop):Prop:=
 rng (f.Vars+(f.Nodes.length:Int))/\
 kg 1 (f.Vars+(f.Nodes.length:Int)) (f.Vars+(f.Nodes.length:Int))/\
 ((0:Int)<=f.Top/\f.Top<((Int.toNat (f.Vars+(f.Nodes.length:Int))):Int))/\
 rng ((f.Nodes.length:Int)-1)/\
 bj (σ:=Int×(List Bool)) (((f.Nodes.length:Int)-1),(bw (bS (f.Vars+(f.Nodes.length:Int)) false) f.Top true)) λ⟨i,mark⟩ next1=>
  an (decide (0<=i))
   (rng (f.Vars+i)/\
   ((0:Int)<=(f.Vars+i)/\(f.Vars+i)<(mark.length:Int))/\
   an (at' mark (f.Vars+i))
    (((0:Int)<=i/\i<(f.Nodes.length:Int))/\
    bj (σ:=Int×(List Bool)) (0,mark) λ⟨x,mark1⟩ next2=>
     an (decide (x<(((at' f.Nodes i).Args).length:Int)))
      (((0:Int)<=x/\x<(((at' f.Nodes i).Args).length:Int))/\
      ((0:Int)<=(at' ((at' f.Nodes i).Args) x)/\(at' ((at' f.Nodes i).Args) x)<(mark1.length:Int))/\
      rng (x+1)/\
      next2 ((x+1),(bw mark1 (at' ((at' f.Nodes i).Args) x) true)))
      (rng (i-1)/\
      next1 ((i-1),mark1)))
    (rng (i-1)/\
    next1 ((i-1),mark)))
   (Q mark)
def lV (f:GFormula) (Q:GFormula->Option Int->Prop):Prop:=
 du f λe=>
 an (Option.isSome e)
  (Q (⟨0,[],0⟩:GFormula) e)
  (rng (f.Vars+(f.Nodes.length:Int))/\
  kg 8 (f.Vars+(f.Nodes.length:Int)) (f.Vars+(f.Nodes.length:Int))/\
  bj (σ:=Int×(List Int)) (0,(bS (f.Vars+(f.Nodes.length:Int)) 0)) λ⟨x,to⟩ next1=>
   an (decide (x<f.Vars))
    (((0:Int)<=x/\x<(to.length:Int))/\
    rng (x+1)/\
    next1 ((x+1),(bw to x x)))
    (cR (iO f) λr=>
    ((0:Int)<=f.Vars/\f.Vars<=(r.length:Int)/\(r.length:Int)<=(r.length:Int))/\
    bj (σ:=Int×(List Int)×(List GNode)) (0,to,[]) λ⟨x1,to1,x2⟩ next2=>
     an (decide (x1<((bH r f.Vars (r.length:Int)).length:Int)))
      (((0:Int)<=x1/\x1<((bH r f.Vars (r.length:Int)).length:Int))/\
      an (!(at' (bH r f.Vars (r.length:Int)) x1))
       (rng (x1+1)/\
       next2 ((x1+1),to1,x2))
       (((0:Int)<=x1/\x1<(f.Nodes.length:Int))/\
       bj (σ:=Int×(List Int)) (0,[]) λ⟨x3,x4⟩ next3=>
        an (decide (x3<(((at' f.Nodes x1).Args).length:Int)))
         (((0:Int)<=x3/\x3<(((at' f.Nodes x1).Args).length:Int))/\
         ((0:Int)<=(at' ((at' f.Nodes x1).Args) x3)/\(at' ((at' f.Nodes x1).Args) x3)<(to1.length:Int))/\
         ((x4++[(at' to1 (at' ((at' f.Nodes x1).Args) x3))]).length*8<=140737488355328)/\
         rng (x3+1)/\
         next3 ((x3+1),(x4++[(at' to1 (at' ((at' f.Nodes x1).Args) x3))])))
         (rng (f.Vars+x1)/\
         rng (f.Vars+(x2.length:Int))/\
         ((0:Int)<=(f.Vars+x1)/\(f.Vars+x1)<(to1.length:Int))/\
         ((x2++[(⟨(at' f.Nodes x1).Kind,(at' f.Nodes x1).K,x4⟩:GNode)]).length*40<=140737488355328)/\
         rng (x1+1)/\
         next2 ((x1+1),(bw to1 (f.Vars+x1) (f.Vars+(x2.length:Int))),(x2++[(⟨(at' f.Nodes x1).Kind,(at' f.Nodes x1).K,x4⟩:GNode)])))))
      (((0:Int)<=f.Top/\f.Top<(to1.length:Int))/\
      Q (⟨f.Vars,x2,(at' to1 f.Top)⟩:GFormula) none)))
def lW (f:GFormula) (Q:Int->Int->Option Int->Prop):Prop:=
 du f λe=>
 an (Option.isSome e)
  (Q 0 0 e)
  (cR (iO f) λr=>
  ((0:Int)<=f.Vars/\f.Vars<=(r.length:Int)/\(r.length:Int)<=(r.length:Int))/\
  bj (σ:=Int×Int×Int) (0,0,0) λ⟨nodes,args,x⟩ next1=>
   an (decide (x<((bH r f.Vars (r.length:Int)).length:Int)))
    (((0:Int)<=x/\x<((bH r f.Vars (r.length:Int)).length:Int))/\
    an (at' (bH r f.Vars (r.length:Int)) x)
     (rng (nodes+1)/\
     ((0:Int)<=x/\x<(f.Nodes.length:Int))/\
     rng (args+(((at' f.Nodes x).Args).length:Int))/\
     kN (args+(((at' f.Nodes x).Args).length:Int)) λargs1=>
     rng (x+1)/\
     next1 ((nodes+1),args1,(x+1)))
     (rng (x+1)/\
     next1 (nodes,args,(x+1))))
    (Q nodes args none))
def qt (f:GFormula) (values:List Bool) (failed:Int) (arg:Int) (Q:Bool->Prop):Prop:=
 an (decide (arg<f.Vars))
  (((0:Int)<=arg/\arg<=64)/\
  Q ((bits .and .i64 (failed / 2^(Int.toNat arg)) 1) == 1))
  (rng (arg-f.Vars)/\
  ((0:Int)<=(arg-f.Vars)/\(arg-f.Vars)<(values.length:Int))/\
  Q (at' values (arg-f.Vars)))
def lK (f:GFormula) (values:List Bool) (valueso:Nat) (valuesl:Nat) (failed:Int) (arg:Int) (Q:List Bool->Bool->Prop):Prop:=
 an (decide (arg<f.Vars))
  (((0:Int)<=arg/\arg<=64)/\
  Q values ((bits .and .i64 (failed / 2^(Int.toNat arg)) 1) == 1))
  (rng (arg-f.Vars)/\
  ((0:Int)<=(arg-f.Vars)/\(arg-f.Vars)<(valuesl:Int))/\
  (Int.toNat ((valueso:Int)+(arg-f.Vars)))<values.length/\
  Q values (at' values ((valueso:Int)+(arg-f.Vars))))
def lJ (f:GFormula) (failed:Int) (Q:List Bool->Prop):Prop:=
 kg 1 (f.Nodes.length:Int) (f.Nodes.length:Int)/\
 bj (σ:=Int×(List Bool)) (0,(bS (f.Nodes.length:Int) false)) λ⟨x,values⟩ next1=>
  an (decide (x<(f.Nodes.length:Int)))
   (((0:Int)<=x/\x<(f.Nodes.length:Int))/\
   bj (σ:=Int×Int×(List Bool)) (0,0,values) λ⟨n,x1,values1⟩ next2=>
    an (decide (x1<(((at' f.Nodes x).Args).length:Int)))
     (((0:Int)<=x1/\x1<(((at' f.Nodes x).Args).length:Int))/\
     lK f values1 0 values1.length failed (at' ((at' f.Nodes x).Args) x1) λvalues2 r=>
     values2.length=values1.length/\
     an r
      (rng (n+1)/\
      rng (x1+1)/\
      next2 ((n+1),(x1+1),values2))
      (rng (x1+1)/\
      next2 (n,(x1+1),values2)))
     (an ((at' f.Nodes x).Kind == 0)
      (((0:Int)<=x/\x<(values1.length:Int))/\
      rng (x+1)/\
      next1 ((x+1),(bw values1 x ((at' f.Nodes x).K == 1))))
      (an ((at' f.Nodes x).Kind == 1)
       (((0:Int)<=x/\x<(values1.length:Int))/\
       rng (x+1)/\
       next1 ((x+1),(bw values1 x (n == 0))))
       (an ((at' f.Nodes x).Kind == 2)
        (((0:Int)<=x/\x<(values1.length:Int))/\
        rng (x+1)/\
        next1 ((x+1),(bw values1 x (n == (((at' f.Nodes x).Args).length:Int)))))
        (an ((at' f.Nodes x).Kind == 3)
         (((0:Int)<=x/\x<(values1.length:Int))/\
         rng (x+1)/\
         next1 ((x+1),(bw values1 x (decide (0<n)))))
         (an ((at' f.Nodes x).Kind == 4)
          (((0:Int)<=x/\x<(values1.length:Int))/\
          rng (x+1)/\
          next1 ((x+1),(bw values1 x (decide ((at' f.Nodes x).K<=n)))))
          (((0:Int)<=x/\x<(values1.length:Int))/\
          rng (x+1)/\
          next1 ((x+1),(bw values1 x ((Int.tmod n 2) == 1))))))))))
   (Q values)
def mQ (f:GFormula) (failed:Int) (Q:Bool->Prop):Prop:=
 cR (lJ f failed) λr=>
 cR (qt f r failed f.Top) λr1=>
 Q r1
end Go.Gg
namespace Go.Gg
def cL:Nat->Int->Int->(List GNode)->Int->(List Int)->(List Bool)->(List Int->List Bool->Prop)->Prop
 | 0,_,_,_,_,_,_,_=>False
 | fu+1,arg,Formula,w,w1,events,seen,Q=>
  ((0:Int)<=arg/\arg<(seen.length:Int))/\
  an (at' seen arg)
   (Q events seen)
   (((0:Int)<=arg/\arg<(seen.length:Int))/\
   an (decide (arg<Formula))
    (((events++[arg]).length*8<=140737488355328)/\
    Q (events++[arg]) (bw seen arg true))
    (rng (arg-Formula)/\
    ((0:Int)<=(arg-Formula)/\(arg-Formula)<(w.length:Int))/\
    bj (σ:=Int×(List Int)×(List Bool)) (0,events,(bw seen arg true)) λ⟨x,x1,x2⟩ next1=>
     an (decide (x<(((at' w (arg-Formula)).Args).length:Int)))
      (((0:Int)<=x/\x<(((at' w (arg-Formula)).Args).length:Int))/\
      cL fu (at' ((at' w (arg-Formula)).Args) x) Formula w w1 x1 x2 λu u1=>
      u1.length=x2.length/\
      rng (x+1)/\
      next1 ((x+1),u,u1))
      (Q x1 x2)))
def mX (f:GFormula) (Q:List Int->List Bool->Prop):Prop:=
 rng (f.Vars+(f.Nodes.length:Int))/\
 kg 1 (f.Vars+(f.Nodes.length:Int)) (f.Vars+(f.Nodes.length:Int))/\
 ∃fu,cL fu f.Top f.Vars f.Nodes f.Top ([]:List Int) (bS (f.Vars+(f.Nodes.length:Int)) false) λu u1=>
 u1.length=(bS (f.Vars+(f.Nodes.length:Int)) false).length/\
 bj (σ:=Int×(List Int)) (0,u) λ⟨x,x1⟩ next1=>
  an (decide (x<f.Vars))
   (((0:Int)<=x/\x<(u1.length:Int))/\
   an (!(at' u1 x))
    (((x1++[x]).length*8<=140737488355328)/\
    rng (x+1)/\
    next1 ((x+1),(x1++[x])))
    (rng (x+1)/\
    next1 ((x+1),x1)))
   (Q x1 u1)
def mY (f:GFormula) (Q:List Int->Option Int->Prop):Prop:=
 du f λerr=>
 an (Option.isSome err)
  (Q [] err)
  (mX f λr _=>
  Q r none)
def mZ (o:List Int) (vars:Int) (Q:Option Int->Prop):Prop:=
 dA (α:=Bool) (λnext3=>
  an (decide (vars<0))
   (next3 true)
   (next3 (decide (24<vars))))
  λx=>
  an x
   (Q (some 3))
   (an ((o.length:Int) != vars)
    (Q (some 11))
    (kg 1 vars vars/\
    bj (σ:=Int×(List Bool)) (0,(bS vars false)) λ⟨x1,seen⟩ next1=>
     an (decide (x1<(o.length:Int)))
      (((0:Int)<=x1/\x1<(o.length:Int))/\
      dA (α:=Bool) (λnext2=>
       an (decide ((at' o x1)<0))
        (next2 true)
        (next2 (decide (vars<=(at' o x1)))))
       λx2=>
       an x2
        (Q (some 3))
        (((0:Int)<=(at' o x1)/\(at' o x1)<(seen.length:Int))/\
        an (at' seen (at' o x1))
         (Q (some 6))
         (((0:Int)<=(at' o x1)/\(at' o x1)<(seen.length:Int))/\
         rng (x1+1)/\
         next1 ((x1+1),(bw seen (at' o x1) true)))))
      (Q none)))
end Go.Gg
namespace Go.Gg
def jt (order:List Int) (Q:List Int->List Int->GMap Int->GMap Int->Prop):Prop:=
 (order.length*8<=140737488355328)/\
 kg 8 (order.length:Int) (order.length:Int)/\
 bj (σ:=Int×(List Int)) (0,(bS (order.length:Int) 0)) λ⟨x,x1⟩ next1=>
  an (decide (x<(order.length:Int)))
   (((0:Int)<=x/\x<(order.length:Int))/\
   ((0:Int)<=(at' order x)/\(at' order x)<(x1.length:Int))/\
   rng (x+1)/\
   next1 ((x+1),(bw x1 (at' order x) x)))
   (Q order x1 (i9:GMap Int) (i9:GMap Int))
def cO (v:Int) (lo:Int) (hi:Int) (_order:List Int) (_place:List Int) (nodes:List GDNode) (unique:GMap Int) (_memo:GMap Int) (Q:List GDNode->GMap Int->Int->Prop):Prop:=
 an (lo == hi)
  (Q nodes unique lo)
  (an (!(Option.isSome (cQ unique [v,lo,hi])))
   (rng (2+(nodes.length:Int))/\
   ((nodes++[(⟨v,lo,hi⟩:GDNode)]).length*24<=140737488355328)/\
   Q (nodes++[(⟨v,lo,hi⟩:GDNode)]) (mput unique [v,lo,hi] (2+(nodes.length:Int))) (2+(nodes.length:Int)))
   (Q nodes unique (Option.getD (cQ unique [v,lo,hi]) 0)))
def dj (i:Int) (order:List Int) (place:List Int) (nodes:List GDNode) (unique:GMap Int) (memo:GMap Int) (Q:List GDNode->GMap Int->Int->Prop):Prop:=
 cO i 0 1 order place nodes unique memo λu u1 r=>
 Q u u1 r
def bI (r:Int) (order:List Int) (place:List Int) (nodes:List GDNode) (_unique:GMap Int) (_memo:GMap Int) (Q:Int->Prop):Prop:=
 an (decide (r<2))
  (Q (order.length:Int))
  (rng (r-2)/\
  ((0:Int)<=(r-2)/\(r-2)<(nodes.length:Int))/\
  ((0:Int)<=(at' nodes (r-2)).Var/\(at' nodes (r-2)).Var<(place.length:Int))/\
  Q (at' place ((at' nodes (r-2)).Var)))
def bU (r:Int) (level:Int) (order:List Int) (place:List Int) (nodes:List GDNode) (unique:GMap Int) (memo:GMap Int) (Q:Int->Int->Prop):Prop:=
 bI r order place nodes unique memo λr1=>
 an (r1 != level)
  (Q r r)
  (rng (r-2)/\
  ((0:Int)<=(r-2)/\(r-2)<(nodes.length:Int))/\
  Q ((at' nodes (r-2)).Lo) ((at' nodes (r-2)).Hi))
def aL:Nat->Int->Int->Int->(List Int)->(List Int)->(List GDNode)->(GMap Int)->(GMap Int)->(List GDNode->GMap Int->GMap Int->Int->Prop)->Prop
 | 0,_,_,_,_,_,_,_,_,_=>False
 | fu+1,c,a,b,order,place,nodes,unique,memo,Q=>
  dA (α:=Unit) (λnext1=>
   dA (α:=Bool) (λnext2=>
    an (c == 1)
     (next2 true)
     (next2 (a == b)))
    λx=>
    an x
     (Q nodes unique memo a)
     (an (c == 0)
      (Q nodes unique memo b)
      (an (a == 1)
       (an (b == 0)
        (Q nodes unique memo c)
        (next1 ()))
       (next1 ()))))
   λ_=>
   an (Option.isSome (cQ memo [c,a,b]))
    (Q nodes unique memo (Option.getD (cQ memo [c,a,b]) 0))
    (bI c order place nodes unique memo λr=>
    bI a order place nodes unique memo λr1=>
    bI b order place nodes unique memo λr2=>
    bU c (min (min r r1) r2) order place nodes unique memo λr3 r4=>
    bU a (min (min r r1) r2) order place nodes unique memo λr5 r6=>
    bU b (min (min r r1) r2) order place nodes unique memo λr7 r8=>
    aL fu r3 r5 r7 order place nodes unique memo λu u1 u2 lo=>
    aL fu r4 r6 r8 order place u u1 u2 λu3 u4 u5 hi=>
    ((0:Int)<=(min (min r r1) r2)/\(min (min r r1) r2)<(order.length:Int))/\
    cO (at' order (min (min r r1) r2)) lo hi order place u3 u4 u5 λu6 u7 r9=>
    Q u6 u7 (mput u5 [c,a,b] r9) r9)
def dT (a:Int) (order:List Int) (place:List Int) (nodes:List GDNode) (unique:GMap Int) (memo:GMap Int) (Q:List GDNode->GMap Int->GMap Int->Int->Prop):Prop:=
 ∃fu,aL fu a 0 1 order place nodes unique memo λu u1 u2 r=>
 Q u u1 u2 r
def dU (a:Int) (b:Int) (order:List Int) (place:List Int) (nodes:List GDNode) (unique:GMap Int) (memo:GMap Int) (Q:List GDNode->GMap Int->GMap Int->Int->Prop):Prop:=
 ∃fu,aL fu a b 0 order place nodes unique memo λu u1 u2 r=>
 Q u u1 u2 r
def eg (a:Int) (b:Int) (order:List Int) (place:List Int) (nodes:List GDNode) (unique:GMap Int) (memo:GMap Int) (Q:List GDNode->GMap Int->GMap Int->Int->Prop):Prop:=
 ∃fu,aL fu a 1 b order place nodes unique memo λu u1 u2 r=>
 Q u u1 u2 r
def dR (a:Int) (b:Int) (order:List Int) (place:List Int) (nodes:List GDNode) (unique:GMap Int) (memo:GMap Int) (Q:List GDNode->GMap Int->GMap Int->Int->Prop):Prop:=
 dT b order place nodes unique memo λu u1 u2 r=>
 ∃fu,aL fu a r b order place u u1 u2 λu3 u4 u5 r1=>
 Q u3 u4 u5 r1
def aX:Nat->Int->Int->(GMap Bool)->(List Int)->(List Int)->(List GDNode)->(GMap Int)->(GMap Int)->(GMap Bool->Prop)->Prop
 | 0,_,_,_,_,_,_,_,_,_=>False
 | fu+1,r,u,u1,order,place,nodes,unique,memo,Q=>
  an (decide (r<2))
   (Q u1)
   (an (Option.getD (cQ u1 [r]) false)
    (Q u1)
    (an (decide (u<((GMap.n u1:Nat):Int)))
     (Q u1)
     (rng (r-2)/\
     ((0:Int)<=(r-2)/\(r-2)<(nodes.length:Int))/\
     ∃u2,(aX fu ((at' nodes (r-2)).Lo) u (mput u1 [r] true) order place nodes unique memo λy1=>y1=u2)/\
     rng (r-2)/\
     ((0:Int)<=(r-2)/\(r-2)<(nodes.length:Int))/\
     ∃u3,(aX fu ((at' nodes (r-2)).Hi) u u2 order place nodes unique memo λy2=>y2=u3)/\
     Q u3)))
def cu (root:Int) (most:Int) (order:List Int) (place:List Int) (nodes:List GDNode) (unique:GMap Int) (memo:GMap Int) (Q:Bool->Prop):Prop:=
 ∃fu,aX fu root most (i9:GMap Bool) order place nodes unique memo λu=>
 Q (decide (((GMap.n u:Nat):Int)<=most))
def bu:Nat->Int->Int->(GMap Int)->(List Int)->(List GDNode)->(List Int)->(List Int)->(List GDNode)->(GMap Int)->(GMap Int)->(GMap Int->List GDNode->Int->Prop)->Prop
 | 0,_,_,_,_,_,_,_,_,_,_,_=>False
 | fu+1,r,Root,u,Order,Nodes,order,place,nodes,unique,memo,Q=>
  an (Option.isSome (cQ u [r]))
   (Q u Nodes (Option.getD (cQ u [r]) 0))
   (rng (r-2)/\
   ((0:Int)<=(r-2)/\(r-2)<(nodes.length:Int))/\
   bu fu ((at' nodes (r-2)).Lo) Root u Order Nodes order place nodes unique memo λu1 u2 lo=>
   bu fu ((at' nodes (r-2)).Hi) Root u1 Order u2 order place nodes unique memo λu3 u4 hi1=>
   ((u4++[(⟨(at' nodes (r-2)).Var,lo,hi1⟩:GDNode)]).length*24<=140737488355328)/\
   rng (1+((u4++[(⟨(at' nodes (r-2)).Var,lo,hi1⟩:GDNode)]).length:Int))/\
   Q (mput u3 [r] (1+((u4++[(⟨(at' nodes (r-2)).Var,lo,hi1⟩:GDNode)]).length:Int))) (u4++[(⟨(at' nodes (r-2)).Var,lo,hi1⟩:GDNode)]) (Option.getD (cQ (mput u3 [r] (1+((u4++[(⟨(at' nodes (r-2)).Var,lo,hi1⟩:GDNode)]).length:Int))) [r]) 0))
def di (root:Int) (order:List Int) (place:List Int) (nodes:List GDNode) (unique:GMap Int) (memo:GMap Int) (Q:GDiagram->Prop):Prop:=
 (order.length*8<=140737488355328)/\
 ∃fu,bu fu root 0 (mput (mput (i9:GMap Int) [0] 0) [1] 1) order ([]:List GDNode) order place nodes unique memo λ_ u1 r=>
 Q (⟨order,u1,r⟩:GDiagram)
end Go.Gg
namespace Go.Gg
def mF (refs:List Int) (first:Int) (order:List Int) (place:List Int) (nodes:List GDNode) (unique:GMap Int) (memo:GMap Int) (Q:List GDNode->GMap Int->GMap Int->Int->Prop):Prop:=
 bj (σ:=Int×Int×(List GDNode)×(GMap Int)×(GMap Int)) (first,0,nodes,unique,memo) λ⟨first1,x,x1,x2,x3⟩ next1=>
  an (decide (x<(refs.length:Int)))
   (((0:Int)<=x/\x<(refs.length:Int))/\
   dU first1 (at' refs x) order place x1 x2 x3 λu u1 u2 first2=>
   rng (x+1)/\
   next1 (first2,(x+1),u,u1,u2))
   (Q x1 x2 x3 first1)
def lZ (refs:List Int) (first:Int) (order:List Int) (place:List Int) (nodes:List GDNode) (unique:GMap Int) (memo:GMap Int) (Q:List GDNode->GMap Int->GMap Int->Int->Prop):Prop:=
 bj (σ:=Int×Int×(List GDNode)×(GMap Int)×(GMap Int)) (first,0,nodes,unique,memo) λ⟨first1,x,x1,x2,x3⟩ next1=>
  an (decide (x<(refs.length:Int)))
   (((0:Int)<=x/\x<(refs.length:Int))/\
   eg first1 (at' refs x) order place x1 x2 x3 λu u1 u2 first2=>
   rng (x+1)/\
   next1 (first2,(x+1),u,u1,u2))
   (Q x1 x2 x3 first1)
def lY (refs:List Int) (first:Int) (order:List Int) (place:List Int) (nodes:List GDNode) (unique:GMap Int) (memo:GMap Int) (Q:List GDNode->GMap Int->GMap Int->Int->Prop):Prop:=
 bj (σ:=Int×Int×(List GDNode)×(GMap Int)×(GMap Int)) (first,0,nodes,unique,memo) λ⟨first1,x,x1,x2,x3⟩ next1=>
  an (decide (x<(refs.length:Int)))
   (((0:Int)<=x/\x<(refs.length:Int))/\
   dR first1 (at' refs x) order place x1 x2 x3 λu u1 u2 first2=>
   rng (x+1)/\
   next1 (first2,(x+1),u,u1,u2))
   (Q x1 x2 x3 first1)
def jq (refs:List Int) (k6:Int) (order:List Int) (place:List Int) (nodes:List GDNode) (unique:GMap Int) (memo:GMap Int) (Q:List GDNode->GMap Int->GMap Int->Int->Prop):Prop:=
 rng (k6+1)/\
 kg 8 (k6+1) (k6+1)/\
 ((0:Int)<=0/\0<((Int.toNat (k6+1)):Int))/\
 bj (σ:=Int×(List Int)×(List GDNode)×(GMap Int)×(GMap Int)) (0,(bw (bS (k6+1) 0) 0 1),nodes,unique,memo) λ⟨x,need,x1,x2,x3⟩ next1=>
  an (decide (x<(refs.length:Int)))
   (((0:Int)<=x/\x<(refs.length:Int))/\
   bj (σ:=Int×(List Int)×(List GDNode)×(GMap Int)×(GMap Int)) (k6,need,x1,x2,x3) λ⟨j,need1,x4,x5,x6⟩ next2=>
    an (decide (0<j))
     (rng (j-1)/\
     ((0:Int)<=(j-1)/\(j-1)<(need1.length:Int))/\
     ((0:Int)<=j/\j<(need1.length:Int))/\
     ∃u u1 u2 r,(∃fu,aL fu (at' refs x) (at' need1 (j-1)) (at' need1 j) order place x4 x5 x6 λy1 y2 y3 y4=>y1=u/\y2=u1/\y3=u2/\y4=r)/\
     ((0:Int)<=j/\j<(need1.length:Int))/\
     rng (j-1)/\
     next2 ((j-1),(bw need1 j r),u,u1,u2))
     (rng (x+1)/\
     next1 ((x+1),need1,x4,x5,x6)))
   (((0:Int)<=k6/\k6<(need.length:Int))/\
   Q x1 x2 x3 (at' need k6))
def gF (x:GNode) (refs:List Int) (order:List Int) (place:List Int) (nodes:List GDNode) (unique:GMap Int) (memo:GMap Int) (Q:List GDNode->GMap Int->GMap Int->Int->Prop):Prop:=
 an (x.Kind == 0)
  (Q nodes unique memo x.K)
  (an (x.Kind == 1)
   (((0:Int)<=0/\0<(refs.length:Int))/\
   dT (at' refs 0) order place nodes unique memo λu u1 u2 r=>
   Q u u1 u2 r)
   (an (x.Kind == 2)
    (mF refs 1 order place nodes unique memo λu3 u4 u5 r1=>
    Q u3 u4 u5 r1)
    (an (x.Kind == 3)
     (lZ refs 0 order place nodes unique memo λu6 u7 u8 r2=>
     Q u6 u7 u8 r2)
     (an (x.Kind == 5)
      (lY refs 0 order place nodes unique memo λu9 u10 u11 r3=>
      Q u9 u10 u11 r3)
      (jq refs x.K order place nodes unique memo λu12 u13 u14 r4=>
      Q u12 u13 u14 r4)))))
def iP (f:GFormula) (o:List Int) (Q:GDiagram->Option Int->Prop):Prop:=
 lW f λr _ r2=>
 an (Option.isSome r2)
  (Q (⟨[],[],0⟩:GDiagram) r2)
  (mZ o f.Vars λerr=>
  an (Option.isSome err)
   (Q (⟨[],[],0⟩:GDiagram) err)
   (dA (α:=GFormula) (λnext4=>
    an (decide (0<r))
     (lV f λr7 r8=>
     an (Option.isSome r8)
      (Q (⟨[],[],0⟩:GDiagram) r8)
      (next4 r7))
     (next4 (⟨f.Vars,[],f.Top⟩:GFormula)))
    λx=>
    jt o λorder place unique memo=>
    rng (x.Vars+(x.Nodes.length:Int))/\
    kg 8 (x.Vars+(x.Nodes.length:Int)) (x.Vars+(x.Nodes.length:Int))/\
    bj (σ:=Int×(List Int)×(GMap Int)×(List GDNode)) (0,(bS (x.Vars+(x.Nodes.length:Int)) 0),unique,[]) λ⟨x1,refs,x2,x3⟩ next1=>
     an (decide (x1<x.Vars))
      (dj x1 order place x3 x2 memo λu u1 r3=>
      ((0:Int)<=x1/\x1<(refs.length:Int))/\
      rng (x1+1)/\
      next1 ((x1+1),(bw refs x1 r3),u1,u))
      (bj (σ:=Int×(List Int)×(GMap Int)×(GMap Int)×(List GDNode)) (0,refs,x2,memo,x3) λ⟨x4,refs1,x5,x6,x7⟩ next2=>
       an (decide (x4<(x.Nodes.length:Int)))
        (((0:Int)<=x4/\x4<(x.Nodes.length:Int))/\
        bj (σ:=Int×(List Int)) (0,[]) λ⟨x8,args⟩ next3=>
         an (decide (x8<(((at' x.Nodes x4).Args).length:Int)))
          (((0:Int)<=x8/\x8<(((at' x.Nodes x4).Args).length:Int))/\
          ((0:Int)<=(at' ((at' x.Nodes x4).Args) x8)/\(at' ((at' x.Nodes x4).Args) x8)<(refs1.length:Int))/\
          ((args++[(at' refs1 (at' ((at' x.Nodes x4).Args) x8))]).length*8<=140737488355328)/\
          rng (x8+1)/\
          next3 ((x8+1),(args++[(at' refs1 (at' ((at' x.Nodes x4).Args) x8))])))
          (rng (x.Vars+x4)/\
          ∃u2 u3 u4 r4,(gF (at' x.Nodes x4) args order place x7 x5 x6 λy1 y2 y3 y4=>y1=u2/\y2=u3/\y3=u4/\y4=r4)/\
          ((0:Int)<=(x.Vars+x4)/\(x.Vars+x4)<(refs1.length:Int))/\
          rng (x.Vars+x4)/\
          ((0:Int)<=(x.Vars+x4)/\(x.Vars+x4)<(refs1.length:Int))/\
          cu (at' (bw refs1 (x.Vars+x4) r4) (x.Vars+x4)) 4096 order place u2 u3 u4 λr5=>
          an (!r5)
           (Q (⟨[],[],0⟩:GDiagram) (some 4))
           (rng (x4+1)/\
           next2 ((x4+1),(bw refs1 (x.Vars+x4) r4),u3,u4,u2))))
        (((0:Int)<=x.Top/\x.Top<(refs1.length:Int))/\
        di (at' refs1 x.Top) order place x7 x5 x6 λr6=>
        Q r6 none))))
end Go.Gg
namespace Go.Gg
def cT (s:List Int) (Q:List Int->Prop):Prop:=
 ∀isnil:Bool,(isnil=true->s=[])->
 an isnil
  (Q [])
  ((([]++s).length*4<=140737488355328)/\
  Q ([]++s))
def fy (s:List Int) (Q:List Int->Prop):Prop:=
 ∀isnil:Bool,(isnil=true->s=[])->
 an isnil
  (Q [])
  ((([]++s).length*8<=140737488355328)/\
  Q ([]++s))
def eC (s:List Int) (Q:List Int->Prop):Prop:=
 ∀isnil:Bool,(isnil=true->s.length=0)->
 an isnil
  (Q [])
  ((([]++s).length*8<=140737488355328)/\
  Q ([]++s))
end Go.Gg
namespace Go.Gg
def ml (x:GRat) (Q:Bool->Prop):Prop:=
 iJ x λr=>
 Q (!r)
def bV (s:List GRat) (Q:Int->Prop):Prop:=
 bj (σ:=Int) 0 λx next1=>
  an (decide (x<(s.length:Int)))
   (((0:Int)<=x/\x<(s.length:Int))/\
   ml (at' s x) λr=>
   an r
    (Q x)
    (rng (x+1)/\
    next1 (x+1)))
   (Q (-1))
def bO (s:List GRat) (Q:Bool->Prop):Prop:=
 bV s λr=>
 Q (decide (0<=r))
def kx (p:List GRat) (vars:Int) (Q:Option Int->Prop):Prop:=
 an ((p.length:Int) != vars)
  (Q (some 11))
  (bO p λr=>
  an r
   (Q (some 3))
   (Q none))
def nL (v:List GRat) (r:Int) (Q:GRat->Prop):Prop:=
 an (decide (r<2))
  (eK r λr1=>
  Q r1)
  (rng (r-2)/\
  ((0:Int)<=(r-2)/\(r-2)<(v.length:Int))/\
  Q (at' v (r-2)))
def kw (r:Int) (v:List GRat) (Q:GRat->Prop):Prop:=
 an (decide (r<2))
  (eK r λr1=>
  Q r1)
  (rng (r-2)/\
  ((0:Int)<=(r-2)/\(r-2)<(v.length:Int))/\
  Q (at' v (r-2)))
def jd (n:GDNode) (p:List GRat) (v:List GRat) (Q:GRat->Prop):Prop:=
 ((0:Int)<=n.Var/\n.Var<(p.length:Int))/\
 cR (eK 1) λr=>
 cR (fH r (at' p n.Var)) λr1=>
 ∃r2,(kw n.Lo v λy1=>y1=r2)/\
 cR (dV r1 r2) λr3=>
 ∃r4,(kw n.Hi v λy2=>y2=r4)/\
 cR (dV (at' p n.Var) r4) λr5=>
 cR (dW r3 r5) λr6=>
 Q r6
def jF (d:GDiagram) (p:List GRat) (Q:List GRat->Prop):Prop:=
 kg 56 0 (d.Nodes.length:Int)/\
 bj (σ:=Int×(List GRat)) (0,(bS 0 (⟨false,[],[]⟩:GRat))) λ⟨x,v⟩ next1=>
  an (decide (x<(d.Nodes.length:Int)))
   (((0:Int)<=x/\x<(d.Nodes.length:Int))/\
   jd (at' d.Nodes x) p v λr=>
   ((v++[r]).length*56<=140737488355328)/\
   rng (x+1)/\
   next1 ((x+1),(v++[r])))
   (Q v)
def mJ (f:GFormula) (p:List GRat) (Q:GRat->Option Int->Prop):Prop:=
 du f λerr=>
 an (Option.isSome err)
  (Q (⟨false,[],[]⟩:GRat) err)
  (kx p f.Vars λerr1=>
  an (Option.isSome err1)
   (Q (⟨false,[],[]⟩:GRat) err1)
   (mY f λr r1=>
   an (Option.isSome r1)
    (Q (⟨false,[],[]⟩:GRat) r1)
    (iP f r λr2 r3=>
    an (Option.isSome r3)
     (Q (⟨false,[],[]⟩:GRat) r3)
     (cR (jF r2 p) λr4=>
     cR (nL r4 r2.Root) λr5=>
     Q r5 none))))
end Go.Gg
namespace Go.Gg
def nm (x:GRat) (Q:Bool->Prop):Prop:=
 iJ x λr=>
 Q (!r)
def bY (s:List GRat) (Q:Int->Prop):Prop:=
 bj (σ:=Int) 0 λx next1=>
  an (decide (x<(s.length:Int)))
   (((0:Int)<=x/\x<(s.length:Int))/\
   nm (at' s x) λr=>
   an r
    (Q x)
    (rng (x+1)/\
    next1 (x+1)))
   (Q (-1))
def bv (s:List GRat) (Q:Bool->Prop):Prop:=
 bY s λr=>
 Q (decide (0<=r))
def fJ (m:GMission) (Q:Option Int->Prop):Prop:=
 an ((m.Phases.length:Int) == 0)
  (Q (some 11))
  (an (decide (6<(m.Phases.length:Int)))
   (Q (some 4))
   (((0:Int)<=0/\0<(m.Phases.length:Int))/\
   bj (σ:=Int) 0 λx next1=>
    an (decide (x<(m.Phases.length:Int)))
     (((0:Int)<=x/\x<(m.Phases.length:Int))/\
     du (at' m.Phases x) λerr=>
     an (Option.isSome err)
      (Q err)
      (an ((at' m.Phases x).Vars != (at' m.Phases 0).Vars)
       (Q (some 11))
       (rng (x+1)/\
       next1 (x+1))))
     (rng ((at' m.Phases 0).Vars*(m.Phases.length:Int))/\
     an (decide (24<((at' m.Phases 0).Vars*(m.Phases.length:Int))))
      (Q (some 4))
      (an ((m.P.length:Int) != (at' m.Phases 0).Vars)
       (Q (some 11))
       (bj (σ:=Int) 0 λx1 next2=>
        an (decide (x1<(m.P.length:Int)))
         (((0:Int)<=x1/\x1<(m.P.length:Int))/\
         an (((at' m.P x1).length:Int) != (m.Phases.length:Int))
          (Q (some 11))
          (bv (at' m.P x1) λr=>
          an r
           (Q (some 3))
           (rng (x1+1)/\
           next2 (x1+1))))
         (Q none))))))
def fe (m:GMission) (h1:List Int) (Q:Option Int->Prop):Prop:=
 fJ m λerr=>
 an (Option.isSome err)
  (Q err)
  (an ((h1.length:Int) != (m.P.length:Int))
   (Q (some 11))
   (bj (σ:=Int) 0 λx next1=>
    an (decide (x<(h1.length:Int)))
     (((0:Int)<=x/\x<(h1.length:Int))/\
     dA (α:=Bool) (λnext2=>
      an (decide ((at' h1 x)<0))
       (next2 true)
       (next2 (decide ((m.Phases.length:Int)<(at' h1 x)))))
      λx1=>
      an x1
       (Q (some 3))
       (rng (x+1)/\
       next1 (x+1)))
     (Q none)))
def kA (h1:List Int) (j:Int) (Q:Int->Prop):Prop:=
 bj (σ:=Int×Int) (0,0) λ⟨set,x⟩ next1=>
  an (decide (x<(h1.length:Int)))
   (((0:Int)<=x/\x<(h1.length:Int))/\
   an (decide ((at' h1 x)<=j))
    ((((0:Int)<=x/\x<=64)/\rng (1*2^(Int.toNat x)))/\
    rng (x+1)/\
    next1 ((bits .or .i64 set (1*2^(Int.toNat x))),(x+1)))
    (rng (x+1)/\
    next1 (set,(x+1))))
   (Q set)
def lQ (m:GMission) (h1:List Int) (Q:Int->Option Int->Prop):Prop:=
 fe m h1 λerr=>
 an (Option.isSome err)
  (Q 0 err)
  (bj (σ:=Int) 0 λx next1=>
   an (decide (x<(m.Phases.length:Int)))
    (((0:Int)<=x/\x<(m.Phases.length:Int))/\
    cR (kA h1 x) λr=>
    HM (kH (at' m.Phases x) r) λr1 r2=>
    an (Option.isSome r2)
     (Q 0 r2)
     (an r1
      (Q x none)
      (rng (x+1)/\
      next1 (x+1))))
    (Q (m.Phases.length:Int) none))
def kB (m:GMission) (h1:List Int) (Q:GRat->Option Int->Prop):Prop:=
 fe m h1 λerr=>
 an (Option.isSome err)
  (Q (⟨false,[],[]⟩:GRat) err)
  (eK 1 λr=>
  bj (σ:=Int×GRat) (0,r) λ⟨x,x1⟩ next1=>
   an (decide (x<(h1.length:Int)))
    (((0:Int)<=x/\x<(h1.length:Int))/\
    ((0:Int)<=x/\x<(m.P.length:Int))/\
    rng ((at' h1 x)+1)/\
    ((0:Int)<=0/\0<=(min ((at' h1 x)+1) (m.Phases.length:Int))/\(min ((at' h1 x)+1) (m.Phases.length:Int))<=((at' m.P x).length:Int))/\
    bj (σ:=Int×GRat) (0,x1) λ⟨x2,x3⟩ next2=>
     an (decide (x2<((bH (at' m.P x) 0 (min ((at' h1 x)+1) (m.Phases.length:Int))).length:Int)))
      (((0:Int)<=x2/\x2<((bH (at' m.P x) 0 (min ((at' h1 x)+1) (m.Phases.length:Int))).length:Int))/\
      dA (α:=GRat) (λnext3=>
       an (decide (x2<(at' h1 x)))
        (fH r (at' (bH (at' m.P x) 0 (min ((at' h1 x)+1) (m.Phases.length:Int))) x2) λr2=>
        next3 r2)
        (next3 (at' (bH (at' m.P x) 0 (min ((at' h1 x)+1) (m.Phases.length:Int))) x2)))
       λx4=>
       dV x3 x4 λr1=>
       rng (x2+1)/\
       next2 ((x2+1),r1))
      (rng (x+1)/\
      next1 ((x+1),x3)))
    (Q x1 none))
def dY (kind:Int) (k2:Int) (args:List Int) (Vars:Int) (_Top:Int) (Nodes:List GNode) (Q:List GNode->Int->Prop):Prop:=
 ((Nodes++[(⟨kind,k2,args⟩:GNode)]).length*40<=140737488355328)/\
 rng (Vars+((Nodes++[(⟨kind,k2,args⟩:GNode)]).length:Int))/\
 rng ((Vars+((Nodes++[(⟨kind,k2,args⟩:GNode)]).length:Int))-1)/\
 Q (Nodes++[(⟨kind,k2,args⟩:GNode)]) ((Vars+((Nodes++[(⟨kind,k2,args⟩:GNode)]).length:Int))-1)
def dX (arg:Int) (u:GFormula) (u1:Int) (u2:Int) (u3:List (List Int)) (Q:Int->Prop):Prop:=
 an (decide (arg<u.Vars))
  (((0:Int)<=arg/\arg<(u3.length:Int))/\
  ((0:Int)<=u1/\u1<((at' u3 arg).length:Int))/\
  Q (at' (at' u3 arg) u1))
  (rng (u2+arg)/\
  rng ((u2+arg)-u.Vars)/\
  Q ((u2+arg)-u.Vars))
def kC (m:GMission) (Q:GFormula->List GRat->Option Int->Prop):Prop:=
 fJ m λerr=>
 an (Option.isSome err)
  (Q (⟨0,[],0⟩:GFormula) [] err)
  (rng ((m.P.length:Int)*(m.Phases.length:Int))/\
  kg 24 (m.P.length:Int) (m.P.length:Int)/\
  bj (σ:=Int×(List (List Int))×(List GNode)) (0,(bS (m.P.length:Int) []),[]) λ⟨x,x1,x2⟩ next1=>
   an (decide (x<((Int.toNat (m.P.length:Int)):Int)))
    (bj (σ:=Int×(List (List Int))×(List Int)×(List GNode)) (0,x1,[],x2) λ⟨x3,x4,so,x5⟩ next2=>
     an (decide (x3<(m.Phases.length:Int)))
      (rng (x*(m.Phases.length:Int))/\
      rng ((x*(m.Phases.length:Int))+x3)/\
      ((so++[((x*(m.Phases.length:Int))+x3)]).length*8<=140737488355328)/\
      an (x3 == 0)
       (((0:Int)<=x/\x<(x4.length:Int))/\
       ((0:Int)<=0/\0<((so++[((x*(m.Phases.length:Int))+x3)]).length:Int))/\
       ((at' x4 x++[(at' (so++[((x*(m.Phases.length:Int))+x3)]) 0)]).length*8<=140737488355328)/\
       ((0:Int)<=x/\x<(x4.length:Int))/\
       rng (x3+1)/\
       next2 ((x3+1),(bw x4 x (at' x4 x++[(at' (so++[((x*(m.Phases.length:Int))+x3)]) 0)])),(so++[((x*(m.Phases.length:Int))+x3)]),x5))
       (((0:Int)<=x/\x<(x4.length:Int))/\
       ∃r,(eC (so++[((x*(m.Phases.length:Int))+x3)]) λy1=>y1=r)/\
       ∃u r1,(dY 3 0 r ((m.P.length:Int)*(m.Phases.length:Int)) 0 x5 λy2 y3=>y2=u/\y3=r1)/\
       ((at' x4 x++[r1]).length*8<=140737488355328)/\
       ((0:Int)<=x/\x<(x4.length:Int))/\
       rng (x3+1)/\
       next2 ((x3+1),(bw x4 x (at' x4 x++[r1])),(so++[((x*(m.Phases.length:Int))+x3)]),u)))
      (rng (x+1)/\
      next1 ((x+1),x4,x5)))
    (bj (σ:=Int×(List Int)×(List GNode)) (0,[],x2) λ⟨x6,tops,x7⟩ next3=>
     an (decide (x6<(m.Phases.length:Int)))
      (((0:Int)<=x6/\x6<(m.Phases.length:Int))/\
      rng (((m.P.length:Int)*(m.Phases.length:Int))+(x7.length:Int))/\
      bj (σ:=Int×(List GNode)) (0,x7) λ⟨x8,x9⟩ next4=>
       an (decide (x8<(((at' m.Phases x6).Nodes).length:Int)))
        (((0:Int)<=x8/\x8<(((at' m.Phases x6).Nodes).length:Int))/\
        bj (σ:=Int×(List Int)) (0,[]) λ⟨x10,args⟩ next5=>
         an (decide (x10<(((at' ((at' m.Phases x6).Nodes) x8).Args).length:Int)))
          (((0:Int)<=x10/\x10<(((at' ((at' m.Phases x6).Nodes) x8).Args).length:Int))/\
          kN (at' ((at' ((at' m.Phases x6).Nodes) x8).Args) x10) λa=>
          dX a (at' m.Phases x6) x6 (((m.P.length:Int)*(m.Phases.length:Int))+(x7.length:Int)) x1 λr2=>
          ((args++[r2]).length*8<=140737488355328)/\
          rng (x10+1)/\
          next5 ((x10+1),(args++[r2])))
          (dY ((at' ((at' m.Phases x6).Nodes) x8).Kind) ((at' ((at' m.Phases x6).Nodes) x8).K) args ((m.P.length:Int)*(m.Phases.length:Int)) 0 x9 λu1 _=>
          rng (x8+1)/\
          next4 ((x8+1),u1)))
        (dX ((at' m.Phases x6).Top) (at' m.Phases x6) x6 (((m.P.length:Int)*(m.Phases.length:Int))+(x7.length:Int)) x1 λr4=>
        ((tops++[r4]).length*8<=140737488355328)/\
        rng (x6+1)/\
        next3 ((x6+1),(tops++[r4]),x9)))
      (((0:Int)<=0/\0<(tops.length:Int))/\
      dA (α:=Int×(List GNode)) (λnext8=>
       an (decide (1<(m.Phases.length:Int)))
        (dY 3 0 tops ((m.P.length:Int)*(m.Phases.length:Int)) (at' tops 0) x7 λu2 r6=>
        next8 (r6,u2))
        (next8 ((at' tops 0),x7)))
       λ⟨x11,x12⟩=>
       an (decide (128<(x12.length:Int)))
        (Q (⟨0,[],0⟩:GFormula) [] (some 4))
        (bj (σ:=Int×(List GRat)) (0,[]) λ⟨x13,p⟩ next6=>
         an (decide (x13<(m.P.length:Int)))
          (((0:Int)<=x13/\x13<(m.P.length:Int))/\
          bj (σ:=Int×(List GRat)) (0,p) λ⟨x14,p1⟩ next7=>
           an (decide (x14<((at' m.P x13).length:Int)))
            (((0:Int)<=x14/\x14<((at' m.P x13).length:Int))/\
            dW (at' (at' m.P x13) x14) (⟨false,[],[]⟩:GRat) λr5=>
            ((p1++[r5]).length*56<=140737488355328)/\
            rng (x14+1)/\
            next7 ((x14+1),(p1++[r5])))
            (rng (x13+1)/\
            next6 ((x13+1),p1)))
          (Q (⟨((m.P.length:Int)*(m.Phases.length:Int)),x12,x11⟩:GFormula) p none)))))
end Go.Gg
namespace Go.Gg
def cY (m:GMission) (Q:Int->Prop):Prop:=
 ((0:Int)<=0/\0<(m.Phases.length:Int))/\
 Q ((at' m.Phases 0).Vars)
def nh (m:GMission) (Q:Int->Prop):Prop:=
 an ((m.Phases.length:Int) == 0)
  (Q 11)
  (an (decide (6<(m.Phases.length:Int)))
   (Q 4)
   (bj (σ:=Int) 0 λj next1=>
    an (decide (j<(m.Phases.length:Int)))
     (((0:Int)<=j/\j<(m.Phases.length:Int))/\
     mS (at' m.Phases j) λe=>
     an (e != 0)
      (Q e)
      (((0:Int)<=j/\j<(m.Phases.length:Int))/\
      cR (cY m) λr=>
      an ((at' m.Phases j).Vars != r)
       (Q 11)
       (rng (j+1)/\
       next1 (j+1))))
     (Q 0)))
def iz (m:GMission) (Q:Int->Prop):Prop:=
 nh m λe=>
 an (e != 0)
  (Q e)
  (cR (cY m) λr=>
  rng (r*(m.Phases.length:Int))/\
  an (decide (24<(r*(m.Phases.length:Int))))
   (Q 4)
   (cR (cY m) λr1=>
   an ((m.P.length:Int) != r1)
    (Q 11)
    (bj (σ:=Int) 0 λi next1=>
     an (decide (i<(m.P.length:Int)))
      (((0:Int)<=i/\i<(m.P.length:Int))/\
      an (((at' m.P i).length:Int) != (m.Phases.length:Int))
       (Q 11)
       (bj (σ:=Int) 0 λj next2=>
        ((0:Int)<=i/\i<(m.P.length:Int))/\
        an (decide (j<((at' m.P i).length:Int)))
         (((0:Int)<=i/\i<(m.P.length:Int))/\
         ((0:Int)<=j/\j<((at' m.P i).length:Int))/\
         nN (at' (at' m.P i) j) λr2=>
         an (!r2)
          (Q 3)
          (rng (j+1)/\
          next2 (j+1)))
         (rng (i+1)/\
         next1 (i+1))))
      (Q 0))))
def jh (events:Int) (phases:Int) (Q:List (List Int)->Prop):Prop:=
 bj (σ:=(List (List Int))×Int) ([[]],0) λ⟨out,i⟩ next1=>
  an (decide (i<events))
   (bj (σ:=Int×(List (List Int))) (0,[]) λ⟨k1,next2⟩ next3=>
    an (decide (k1<(out.length:Int)))
     (bj (σ:=Int×(List (List Int))) (0,next2) λ⟨j,next4⟩ next5=>
      an (decide (j<=phases))
       (((0:Int)<=k1/\k1<(out.length:Int))/\
       ((at' out k1).length*8<=140737488355328)/\
       (((at' out k1)++[j]).length*8<=140737488355328)/\
       ((next4++[((at' out k1)++[j])]).length*24<=140737488355328)/\
       rng (j+1)/\
       next5 ((j+1),(next4++[((at' out k1)++[j])])))
       (rng (k1+1)/\
       next3 ((k1+1),next4)))
     (rng (i+1)/\
     next1 (next2,(i+1))))
   (Q out)
def lH (h1:List Int) (j:Int) (Q:Int->Prop):Prop:=
 bj (σ:=Int×Int) (0,0) λ⟨out,i⟩ next1=>
  an (decide (i<(h1.length:Int)))
   (((0:Int)<=i/\i<(h1.length:Int))/\
   an (decide ((at' h1 i)<=j))
    ((((0:Int)<=i/\i<=64)/\rng (1*2^(Int.toNat i)))/\
    rng (i+1)/\
    next1 ((bits .or .i64 out (1*2^(Int.toNat i))),(i+1)))
    (rng (i+1)/\
    next1 (out,(i+1))))
   (Q out)
def mP (m:GMission) (h1:List Int) (Q:Int->Prop):Prop:=
 bj (σ:=Int) 0 λj next1=>
  an (decide (j<(m.Phases.length:Int)))
   (((0:Int)<=j/\j<(m.Phases.length:Int))/\
   cR (lH h1 j) λr=>
   cR (mQ (at' m.Phases j) r) λr1=>
   an r1
    (Q j)
    (rng (j+1)/\
    next1 (j+1)))
   (Q (m.Phases.length:Int))
def lF (m:GMission) (h1:List Int) (Q:GRat->Prop):Prop:=
 iR 1 λr=>
 bj (σ:=Int×GRat) (0,r) λ⟨i,x⟩ next1=>
  an (decide (i<(h1.length:Int)))
   (bj (σ:=Int×GRat) (0,x) λ⟨k1,x1⟩ next2=>
    ((0:Int)<=i/\i<(h1.length:Int))/\
    an (decide (k1<(at' h1 i)))
     (cR (iR 1) λr1=>
     ((0:Int)<=i/\i<(m.P.length:Int))/\
     ((0:Int)<=k1/\k1<((at' m.P i).length:Int))/\
     cR (i0 r1 (at' (at' m.P i) k1)) λr2=>
     cR (i2 x1 r2) λr3=>
     rng (k1+1)/\
     next2 ((k1+1),r3))
     (((0:Int)<=i/\i<(h1.length:Int))/\
     an (decide ((at' h1 i)<(m.Phases.length:Int)))
      (((0:Int)<=i/\i<(m.P.length:Int))/\
      ((0:Int)<=i/\i<(h1.length:Int))/\
      ((0:Int)<=(at' h1 i)/\(at' h1 i)<((at' m.P i).length:Int))/\
      cR (i2 x1 (at' (at' m.P i) (at' h1 i))) λr4=>
      rng (i+1)/\
      next1 ((i+1),r4))
      (rng (i+1)/\
      next1 ((i+1),x1))))
   (Q x)
def mo (events:Int) (phases:Int) (Q:List GNode->Prop):Prop:=
 bj (σ:=Int×(List GNode)) (0,[]) λ⟨i,out⟩ next1=>
  an (decide (i<events))
   (bj (σ:=Int×(List GNode)) (1,out) λ⟨j,out1⟩ next2=>
    an (decide (j<phases))
     (bj (σ:=Int×(List Int)) (0,[]) λ⟨k1,x⟩ next3=>
      an (decide (k1<=j))
       (rng (i*phases)/\
       rng ((i*phases)+k1)/\
       ((x++[((i*phases)+k1)]).length*8<=140737488355328)/\
       rng (k1+1)/\
       next3 ((k1+1),(x++[((i*phases)+k1)])))
       (((out1++[(⟨3,0,x⟩:GNode)]).length*40<=140737488355328)/\
       rng (j+1)/\
       next2 ((j+1),(out1++[(⟨3,0,x⟩:GNode)]))))
     (rng (i+1)/\
     next1 ((i+1),out1)))
   (Q out)
def jU (m:GMission) (j:Int) (arg:Int) (first:Int) (Q:Int->Prop):Prop:=
 cR (cY m) λn=>
 an (decide (n<=arg))
  (rng (first+arg)/\
  rng ((first+arg)-n)/\
  Q ((first+arg)-n))
  (an (j == 0)
   (rng (arg*(m.Phases.length:Int))/\
   Q (arg*(m.Phases.length:Int)))
   (rng (n*(m.Phases.length:Int))/\
   rng ((m.Phases.length:Int)-1)/\
   rng (arg*((m.Phases.length:Int)-1))/\
   rng ((n*(m.Phases.length:Int))+(arg*((m.Phases.length:Int)-1)))/\
   rng (((n*(m.Phases.length:Int))+(arg*((m.Phases.length:Int)-1)))+j)/\
   rng ((((n*(m.Phases.length:Int))+(arg*((m.Phases.length:Int)-1)))+j)-1)/\
   Q ((((n*(m.Phases.length:Int))+(arg*((m.Phases.length:Int)-1)))+j)-1)))
def lG (m:GMission) (Q:GFormula->List GRat->Int->Prop):Prop:=
 cR (cY m) λn=>
 rng (n*(m.Phases.length:Int))/\
 mo n (m.Phases.length:Int) λr=>
 bj (σ:=Int×(List GNode)×(List Int)) (0,r,[]) λ⟨j,x,x1⟩ next1=>
  an (decide (j<(m.Phases.length:Int)))
   (((0:Int)<=j/\j<(m.Phases.length:Int))/\
   rng ((n*(m.Phases.length:Int))+(x.length:Int))/\
   bj (σ:=Int×(List GNode)) (0,x) λ⟨i,x2⟩ next2=>
    an (decide (i<(((at' m.Phases j).Nodes).length:Int)))
     (((0:Int)<=i/\i<(((at' m.Phases j).Nodes).length:Int))/\
     ((0:Int)<=i/\i<(((at' m.Phases j).Nodes).length:Int))/\
     bj (σ:=Int×(List Int)) (0,[]) λ⟨a,x3⟩ next3=>
      ((0:Int)<=i/\i<(((at' m.Phases j).Nodes).length:Int))/\
      an (decide (a<(((at' ((at' m.Phases j).Nodes) i).Args).length:Int)))
       (((0:Int)<=i/\i<(((at' m.Phases j).Nodes).length:Int))/\
       ((0:Int)<=a/\a<(((at' ((at' m.Phases j).Nodes) i).Args).length:Int))/\
       cR (jU m j (at' ((at' ((at' m.Phases j).Nodes) i).Args) a) ((n*(m.Phases.length:Int))+(x.length:Int))) λr1=>
       ((x3++[r1]).length*8<=140737488355328)/\
       rng (a+1)/\
       next3 ((a+1),(x3++[r1])))
       (((x2++[(⟨(at' ((at' m.Phases j).Nodes) i).Kind,(at' ((at' m.Phases j).Nodes) i).K,x3⟩:GNode)]).length*40<=140737488355328)/\
       rng (i+1)/\
       next2 ((i+1),(x2++[(⟨(at' ((at' m.Phases j).Nodes) i).Kind,(at' ((at' m.Phases j).Nodes) i).K,x3⟩:GNode)]))))
     (cR (jU m j ((at' m.Phases j).Top) ((n*(m.Phases.length:Int))+(x.length:Int))) λr2=>
     ((x1++[r2]).length*8<=140737488355328)/\
     rng (j+1)/\
     next1 ((j+1),x2,(x1++[r2]))))
   (((0:Int)<=0/\0<(x1.length:Int))/\
   dA (α:=Int×(List GNode)) (λnext5=>
    an (decide (1<(m.Phases.length:Int)))
     (rng ((n*(m.Phases.length:Int))+(x.length:Int))/\
     ((x++[(⟨3,0,x1⟩:GNode)]).length*40<=140737488355328)/\
     next5 (((n*(m.Phases.length:Int))+(x.length:Int)),(x++[(⟨3,0,x1⟩:GNode)])))
     (next5 ((at' x1 0),x)))
    λ⟨x4,x5⟩=>
    an (decide (128<(x5.length:Int)))
     (Q (⟨0,[],0⟩:GFormula) [] 4)
     (bj (σ:=Int×(List GRat)) (0,[]) λ⟨i1,p⟩ next4=>
      an (decide (i1<n))
       (((0:Int)<=i1/\i1<(m.P.length:Int))/\
       ((p++(at' m.P i1)).length*56<=140737488355328)/\
       rng (i1+1)/\
       next4 ((i1+1),(p++(at' m.P i1))))
       (Q (⟨(n*(m.Phases.length:Int)),x5,x4⟩:GFormula) p 0)))
end Go.Gg
namespace Go.Gg
def ip (m:GMission) (Q:List GRat->Option Int->Prop):Prop:=
 fJ m λerr=>
 an (Option.isSome err)
  (Q [] err)
  (bj (σ:=Int×Int) (1,0) λ⟨all,x⟩ next1=>
   an (decide (x<(m.P.length:Int)))
    (rng ((m.Phases.length:Int)+1)/\
    rng (all*((m.Phases.length:Int)+1))/\
    an (decide (4096<(all*((m.Phases.length:Int)+1))))
     (Q [] (some 4))
     (rng (x+1)/\
     next1 ((all*((m.Phases.length:Int)+1)),(x+1))))
    (kg 56 (m.Phases.length:Int) (m.Phases.length:Int)/\
    bj (σ:=Int×(List GRat)) (0,(bS (m.Phases.length:Int) (⟨false,[],[]⟩:GRat))) λ⟨x1,out⟩ next2=>
     an (decide (x1<all))
      (kg 8 (m.P.length:Int) (m.P.length:Int)/\
      bj (σ:=Int×Int×(List Int)) (x1,0,(bS (m.P.length:Int) 0)) λ⟨number,x2,h1⟩ next3=>
       an (decide (x2<((Int.toNat (m.P.length:Int)):Int)))
        (rng ((m.Phases.length:Int)+1)/\
        ((m.Phases.length:Int)+1)≠0/\
        rng ((m.Phases.length:Int)+1)/\
        (((m.Phases.length:Int)+1)≠0/\rng (Int.tdiv number ((m.Phases.length:Int)+1)))/\
        ((0:Int)<=x2/\x2<(h1.length:Int))/\
        rng (x2+1)/\
        next3 ((Int.tdiv number ((m.Phases.length:Int)+1)),(x2+1),(bw h1 x2 (Int.tmod number ((m.Phases.length:Int)+1)))))
        (lQ m h1 λr r1=>
        an (Option.isSome r1)
         (Q [] r1)
         (an (r == (m.Phases.length:Int))
          (rng (x1+1)/\
          next2 ((x1+1),out))
          (kB m h1 λr2 r3=>
          an (Option.isSome r3)
           (Q [] r3)
           (((0:Int)<=r/\r<(out.length:Int))/\
           cR (dW (at' out r) r2) λr4=>
           ((0:Int)<=r/\r<(out.length:Int))/\
           rng (x1+1)/\
           next2 ((x1+1),(bw out r r4)))))))
      (Q out none)))
def gk (m:GMission) (Q:GRat->Option Int->Prop):Prop:=
 kC m λr r1 r2=>
 an (Option.isSome r2)
  (Q (⟨false,[],[]⟩:GRat) r2)
  (mJ r r1 λr3 r4=>
  Q r3 r4)
def kE (m:GMission) (j:Int) (Q:Option Int->Prop):Prop:=
 fJ m λerr=>
 an (Option.isSome err)
  (Q err)
  (dA (α:=Bool) (λnext1=>
   an (decide (j<0))
    (next1 true)
    (next1 (decide ((m.Phases.length:Int)<=j))))
   λx=>
   an x
    (Q (some 10))
    (Q none))
def jK (f:GFormula) (Q:GFormula->Prop):Prop:=
 bj (σ:=Int×(List GNode)) (0,[]) λ⟨x,x1⟩ next1=>
  an (decide (x<(f.Nodes.length:Int)))
   (((0:Int)<=x/\x<(f.Nodes.length:Int))/\
   cR (fy ((at' f.Nodes x).Args)) λr=>
   ((x1++[(⟨(at' f.Nodes x).Kind,(at' f.Nodes x).K,r⟩:GNode)]).length*40<=140737488355328)/\
   rng (x+1)/\
   next1 ((x+1),(x1++[(⟨(at' f.Nodes x).Kind,(at' f.Nodes x).K,r⟩:GNode)])))
   (Q (⟨f.Vars,x1,f.Top⟩:GFormula))
def m8 (x:GRat) (Q:GRat->Prop):Prop:=
 cR (cT x.Num) λr=>
 cR (cT x.Den) λr1=>
 Q (⟨x.Neg,r,r1⟩:GRat)
def fp (m:GMission) (j:Int) (Q:GMission->Option Int->Prop):Prop:=
 kE m j λerr=>
 an (Option.isSome err)
  (Q (⟨[],[]⟩:GMission) err)
  (rng (j+1)/\
  ((0:Int)<=0/\0<=(j+1)/\(j+1)<=(m.Phases.length:Int))/\
  bj (σ:=Int×(List GFormula)) (0,[]) λ⟨x,x1⟩ next1=>
   an (decide (x<((bH m.Phases 0 (j+1)).length:Int)))
    (((0:Int)<=x/\x<((bH m.Phases 0 (j+1)).length:Int))/\
    cR (jK (at' (bH m.Phases 0 (j+1)) x)) λr=>
    ((x1++[r]).length*40<=140737488355328)/\
    rng (x+1)/\
    next1 ((x+1),(x1++[r])))
    (bj (σ:=Int×(List (List GRat))) (0,[]) λ⟨x2,x3⟩ next2=>
     an (decide (x2<(m.P.length:Int)))
      (((0:Int)<=x2/\x2<(m.P.length:Int))/\
      rng (j+1)/\
      ((0:Int)<=0/\0<=(j+1)/\(j+1)<=((at' m.P x2).length:Int))/\
      bj (σ:=Int×(List GRat)) (0,[]) λ⟨x4,row⟩ next3=>
       an (decide (x4<((bH (at' m.P x2) 0 (j+1)).length:Int)))
        (((0:Int)<=x4/\x4<((bH (at' m.P x2) 0 (j+1)).length:Int))/\
        m8 (at' (bH (at' m.P x2) 0 (j+1)) x4) λr1=>
        ((row++[r1]).length*56<=140737488355328)/\
        rng (x4+1)/\
        next3 ((x4+1),(row++[r1])))
        (((x3++[row]).length*24<=140737488355328)/\
        rng (x2+1)/\
        next2 ((x2+1),(x3++[row]))))
      (Q (⟨x1,x3⟩:GMission) none)))
def eb (m:GMission) (j:Int) (Q:GRat->Option Int->Prop):Prop:=
 fp m j λr r1=>
 an (Option.isSome r1)
  (Q (⟨false,[],[]⟩:GRat) r1)
  (gk r λr2 r3=>
  Q r2 r3)
end Go.Gg
namespace Go.Gg
def fv (m:GMission) (Q:Int->Prop):Prop:=
 bj (σ:=Int×Int) (1,0) λ⟨n,i⟩ next1=>
  cY m λr=>
  an (decide (i<r))
   (an (decide (n<=4096))
    (rng ((m.Phases.length:Int)+1)/\
    rng (n*((m.Phases.length:Int)+1))/\
    rng (i+1)/\
    next1 ((n*((m.Phases.length:Int)+1)),(i+1)))
    (Q n))
   (Q n)
def jg (m:GMission) (Q:List GRat->Prop):Prop:=
 kg 56 (m.Phases.length:Int) (m.Phases.length:Int)/\
 cR (cY m) λr=>
 cR (jh r (m.Phases.length:Int)) λl=>
 bj (σ:=Int×(List GRat)) (0,(bS (m.Phases.length:Int) (⟨false,[],[]⟩:GRat))) λ⟨i,out⟩ next1=>
  an (decide (i<(l.length:Int)))
   (((0:Int)<=i/\i<(l.length:Int))/\
   cR (mP m (at' l i)) λj=>
   an (decide (j<(m.Phases.length:Int)))
    (((0:Int)<=j/\j<(out.length:Int))/\
    ((0:Int)<=i/\i<(l.length:Int))/\
    cR (lF m (at' l i)) λr1=>
    cR (gN (at' out j) r1) λr2=>
    ((0:Int)<=j/\j<(out.length:Int))/\
    rng (i+1)/\
    next1 ((i+1),(bw out j r2)))
    (rng (i+1)/\
    next1 ((i+1),out)))
   (Q out)
def mO (m:GMission) (Q:GRat->Prop):Prop:=
 jg m λl=>
 bj (σ:=Int×GRat) (0,(⟨false,[],[]⟩:GRat)) λ⟨i,x⟩ next1=>
  an (decide (i<(l.length:Int)))
   (((0:Int)<=i/\i<(l.length:Int))/\
   cR (gN x (at' l i)) λr=>
   rng (i+1)/\
   next1 ((i+1),r))
   (Q x)
def mN (m:GMission) (j:Int) (Q:GMission->Prop):Prop:=
 rng (j+1)/\
 ((0:Int)<=0/\0<=(j+1)/\(j+1)<=(m.Phases.length:Int))/\
 ((bH m.Phases 0 (j+1)).length*40<=140737488355328)/\
 bj (σ:=Int×(List (List GRat))) (0,[]) λ⟨i,x⟩ next1=>
  an (decide (i<(m.P.length:Int)))
   (((0:Int)<=i/\i<(m.P.length:Int))/\
   rng (j+1)/\
   ((0:Int)<=0/\0<=(j+1)/\(j+1)<=((at' m.P i).length:Int))/\
   ((bH (at' m.P i) 0 (j+1)).length*56<=140737488355328)/\
   ((x++[(bH (at' m.P i) 0 (j+1))]).length*24<=140737488355328)/\
   rng (i+1)/\
   next1 ((i+1),(x++[(bH (at' m.P i) 0 (j+1))])))
   (Q (⟨(bH m.Phases 0 (j+1)),x⟩:GMission))
end Go.Gg
namespace Go.Gg
end Go.Gg
namespace Go.Gg
def ij (n:Int) (d:Int) (Q:GRat->Prop):Prop:=
 kP n d λr _=>
 Q r
def iN (Q:GMission->Prop):Prop:=
 ij 1 2 λr=>
 Q (⟨[(⟨2,[(⟨2,0,[0,1]⟩:GNode)],2⟩:GFormula),(⟨2,[(⟨3,0,[0,1]⟩:GNode)],2⟩:GFormula)],[[r,r],[r,r]]⟩:GMission)
def j2 (Q:Bool->Prop):Prop:=
 iN λr=>
 ip r λr1 r2=>
 iN λr3=>
 gk r3 λr4 r5=>
 an (Option.isNone r2)
  (an (Option.isNone r5)
   (cR (ij 15 16) λr6=>
   cR (ge r4 r6) λr7=>
   an r7
    (cR (ij 1 4) λr8=>
    cR (ij 11 16) λr9=>
    cR (ku r1 [r8,r9]) λr10=>
    Q r10)
    (Q false))
   (Q false))
  (Q false)
def j0 (m:GMission) (Q:Bool->Prop):Prop:=
 an (decide (20<(m.Phases.length:Int)))
  (Q true)
  (an (decide (50<(m.P.length:Int)))
   (Q true)
   (bj (σ:=Int) 0 λi next1=>
    an (decide (i<(m.P.length:Int)))
     (((0:Int)<=i/\i<(m.P.length:Int))/\
     an (decide (50<((at' m.P i).length:Int)))
      (Q true)
      (bj (σ:=Int) 0 λj next2=>
       ((0:Int)<=i/\i<(m.P.length:Int))/\
       an (decide (j<((at' m.P i).length:Int)))
        (((0:Int)<=i/\i<(m.P.length:Int))/\
        ((0:Int)<=j/\j<((at' m.P i).length:Int))/\
        an (decide (4<(((at' (at' m.P i) j).Num).length:Int)))
         (Q true)
         (((0:Int)<=i/\i<(m.P.length:Int))/\
         ((0:Int)<=j/\j<((at' m.P i).length:Int))/\
         an (decide (4<(((at' (at' m.P i) j).Den).length:Int)))
          (Q true)
          (rng (j+1)/\
          next2 (j+1))))
        (rng (i+1)/\
        next1 (i+1))))
     (iz m λr=>
     an (r == 0)
      (fv m λr1=>
      an (decide (300<r1))
       (fv m λr2=>
       Q (decide (r2<=4096)))
       (Q false))
      (Q false))))
def kT (m:GMission) (Q:Bool->Prop):Prop:=
 iz m λr=>
 an (r == 0)
  (fv m λr1=>
  Q (decide (4096<r1)))
  (Q false)
def ou (m:GMission) (Q:Int->Prop):Prop:=
 lG m λ_ _ r2=>
 Q r2
def ii (a:GMission) (b:GMission) (Q:Bool->Prop):Prop:=
 an ((a.Phases.length:Int) != (b.Phases.length:Int))
  (Q false)
  (an ((a.P.length:Int) != (b.P.length:Int))
   (Q false)
   (bj (σ:=Int) 0 λj next1=>
    an (decide (j<(a.Phases.length:Int)))
     (((0:Int)<=j/\j<(a.Phases.length:Int))/\
     ((0:Int)<=j/\j<(b.Phases.length:Int))/\
     cR (l9 (at' a.Phases j) (at' b.Phases j)) λr=>
     an (!r)
      (Q false)
      (rng (j+1)/\
      next1 (j+1)))
     (bj (σ:=Int) 0 λi next2=>
      an (decide (i<(a.P.length:Int)))
       (((0:Int)<=i/\i<(a.P.length:Int))/\
       ((0:Int)<=i/\i<(b.P.length:Int))/\
       cR (ku (at' a.P i) (at' b.P i)) λr1=>
       an (!r1)
        (Q false)
        (rng (i+1)/\
        next2 (i+1)))
       (Q true))))
end Go.Gg
namespace Go.Gg
def kh (m:GMission) (j:Int) (Q:Bool->Prop):Prop:=
 dA (α:=Bool) (λnext2=>
  j2 λr15=>
  an (!r15)
   (next2 true)
   (j0 m λr16=>
   an r16
    (next2 true)
    (kT m λr17=>
    next2 r17)))
  λx=>
  an x
   (j2 λr=>
   Q r)
   (fp m j λr1 r2=>
   eb m j λr3 r4=>
   iz m λcode=>
   dA (α:=Int) (λnext1=>
    an (code == 0)
     (an (decide (j<0))
      (next1 10)
      (an (decide ((m.Phases.length:Int)<=j))
       (next1 10)
       (next1 code)))
     (next1 code))
    λcode1=>
    an (code1 != 0)
     (ii r1 (⟨[],[]⟩:GMission) λr5=>
     an r5
      (ge r3 (⟨false,[],[]⟩:GRat) λr6=>
      an r6
       (gZ r2 λr7=>
       an (r7 == code1)
        (gZ r4 λr8=>
        Q (r8 == code1))
        (Q false))
       (Q false))
      (Q false))
     (mN m j λr9=>
     an (Option.isSome r2)
      (Q false)
      (ii r1 r9 λr10=>
      an (!r10)
       (Q false)
       (ou r9 λcode2=>
       an (code2 != 0)
        (ge r3 (⟨false,[],[]⟩:GRat) λr11=>
        an r11
         (gZ r4 λr12=>
         Q (r12 == code2))
         (Q false))
        (an (Option.isNone r4)
         (cR (mO r9) λr13=>
         cR (ge r3 r13) λr14=>
         Q r14)
         (Q false))))))
end Go.Gg
