/- The structures of the program and how they are encoded. Conditions: none. -/
import Derived.Test.YtnjgdkfhgmebjaaGc
import Derived.Test.YtnjgdkfhgmebjaaGd2
namespace Go.Gg
structure GNode where
 Kind:Int
 K:Int
 Args:List Int
instance:Inhabited GNode:=⟨⟨0,0,[]⟩⟩
def br (r:GNode):AV:=.agg [.int .i64 r.Kind,.int .i64 r.K,eL (AV.int .i64) r.Args]
structure GFormula where
 Vars:Int
 Nodes:List GNode
 Top:Int
instance:Inhabited GFormula:=⟨⟨0,[],0⟩⟩
def aq (r:GFormula):AV:=.agg [.int .i64 r.Vars,eL br r.Nodes,.int .i64 r.Top]
structure GRat where
 Neg:Bool
 Num:List Int
 Den:List Int
instance:Inhabited GRat:=⟨⟨false,[],[]⟩⟩
def ae (r:GRat):AV:=.agg [.bool r.Neg,eL (AV.int .u32) r.Num,eL (AV.int .u32) r.Den]
structure GCauseGroup where
 Kind:Int
 Members:List Int
 Factors:List GRat
instance:Inhabited GCauseGroup:=⟨⟨0,[],[]⟩⟩
def ay (r:GCauseGroup):AV:=.agg [.int .i64 r.Kind,eL (AV.int .i64) r.Members,eL ae r.Factors]
structure Gcause where
 p:GRat
 members:List Int
instance:Inhabited Gcause:=⟨⟨default,[]⟩⟩
def df (r:Gcause):AV:=.agg [.bool r.p.Neg,eL (AV.int .u32) r.p.Num,eL (AV.int .u32) r.p.Den,eL (AV.int .i64) r.members]
end Go.Gg
namespace Go.Gg
def d4:ByteArray:=⟨#[0,1,2,2,3,3,3,3,4,4,4,4,4,4,4,4,5,5,5,5,5,5,5,5,5,5,5,5,5,5,5,5,6,6,6,6,6,6,6,6,6,6,6,6,6,6,6,6,6,6,6,6,6,6,6,6,6,6,6,6,6,6,6,6,7,7,7,7,7,7,7,7,7,7,7,7,7,7,7,7,7,7,7,7,7,7,7,7,7,7,7,7,7,7,7,7,7,7,7,7,7,7,7,7,7,7,7,7,7,7,7,7,7,7,7,7,7,7,7,7,7,7,7,7,7,7,7,7,8,8,8,8,8,8,8,8,8,8,8,8,8,8,8,8,8,8,8,8,8,8,8,8,8,8,8,8,8,8,8,8,8,8,8,8,8,8,8,8,8,8,8,8,8,8,8,8,8,8,8,8,8,8,8,8,8,8,8,8,8,8,8,8,8,8,8,8,8,8,8,8,8,8,8,8,8,8,8,8,8,8,8,8,8,8,8,8,8,8,8,8,8,8,8,8,8,8,8,8,8,8,8,8,8,8,8,8,8,8,8,8,8,8,8,8,8,8,8,8,8,8,8,8,8,8,8,8]⟩
def bi (a:List Int) (Q:List Int->Prop):Prop:=
 c6 (α:=Int) (λnext1=>
  bk (σ:=Int) (a.length:Int) λn1 next2=>
   ah (decide (0<n1))
    (rng (n1-1)/\
    ((0:Int)<=(n1-1)/\(n1-1)<(a.length:Int))/\
    ah ((at' a (n1-1)) == 0)
     (rng (n1-1)/\
     next2 (n1-1))
     (next1 n1))
    (next1 n1))
  λn=>
  ah (n == 0)
   (Q [])
   (((0:Int)<=0/\0<=n/\n<=(a.length:Int))/\
   ((([]:List Int)++(eh a 0 n)).length*4<=140737488355328)/\
   Q (([]:List Int)++(eh a 0 n)))
def cm (a:List Int) (b:List Int) (Q:Int->Prop):Prop:=
 bi a λa1=>
 bi b λb1=>
 ah ((a1.length:Int) != (b1.length:Int))
  (ah (decide ((a1.length:Int)<(b1.length:Int)))
   (Q (-1))
   (Q 1))
  (rng ((a1.length:Int)-1)/\
  bk (σ:=Int) ((a1.length:Int)-1) λi next1=>
   ah (decide (0<=i))
    (((0:Int)<=i/\i<(a1.length:Int))/\
    ((0:Int)<=i/\i<(b1.length:Int))/\
    ah (decide ((at' a1 i)<(at' b1 i)))
     (Q (-1))
     (((0:Int)<=i/\i<(a1.length:Int))/\
     ((0:Int)<=i/\i<(b1.length:Int))/\
     ah (decide ((at' b1 i)<(at' a1 i)))
      (Q 1)
      (rng (i-1)/\
      next1 (i-1))))
    (Q 0))
def gd (n:Int) (Q:List Int->Prop):Prop:=
 ah (decide (n<=0))
  (Q [])
  (bi [(IntKind.wrap .u32 n),(IntKind.wrap .u32 (n / 2^(Int.toNat 32)))] λr=>
  Q r)
def ey (a:List Int) (b:Int) (Q:List Int->Int->Prop):Prop:=
 lz 4 (a.length:Int) (a.length:Int)/\
 rng ((a.length:Int)-1)/\
 bk (σ:=Int×Int×(List Int)) (0,((a.length:Int)-1),(ek (a.length:Int) 0)) λ⟨rest,i,out⟩ next1=>
  ah (decide (0<=i))
   (((0:Int)<=i/\i<(a.length:Int))/\
   gX (bits .or .u64 (IntKind.wrap .u64 (rest*2^(Int.toNat 32))) (IntKind.wrap .u64 (at' a i))) λrest1=>
   (IntKind.wrap .u64 b)≠0/\
   ((0:Int)<=i/\i<(out.length:Int))/\
   (IntKind.wrap .u64 b)≠0/\
   rng (i-1)/\
   next1 ((Int.tmod rest1 (IntKind.wrap .u64 b)),(i-1),(b6 out i (IntKind.wrap .u32 (IntKind.wrap .u64 (Int.tdiv rest1 (IntKind.wrap .u64 b)))))))
   (bi out λr=>
   Q r (IntKind.wrap .u32 rest))
def dE (x:Int) (Q:Int->Prop):Prop:=
 c6 (α:=Int×Int) (λnext2=>
  ah (decide (65536<=x))
   (next2 ((x / 2^(Int.toNat 16)),16))
   (next2 (x,0)))
  λ⟨x1,n⟩=>
  c6 (α:=Int×Int) (λnext1=>
   ah (decide (256<=x1))
    (rng (n+8)/\
    next1 ((x1 / 2^(Int.toNat 8)),(n+8)))
    (next1 (x1,n)))
   λ⟨x2,n1⟩=>
   ((0:Int)<=(IntKind.wrap .u8 x2)/\(IntKind.wrap .u8 x2)<(d4.size:Int))/\
   rng (n1+(IntKind.wrap .i64 (kg d4 (Int.toNat (IntKind.wrap .u8 x2)))))/\
   gX (n1+(IntKind.wrap .i64 (kg d4 (Int.toNat (IntKind.wrap .u8 x2))))) λn2=>
   Q n2
def cN (x:Int) (Q:Int->Prop):Prop:=
 dE x λr=>
 rng (32-r)/\
 Q (32-r)
def cM (a:List Int) (n:Int) (Q:List Int->Prop):Prop:=
 rng ((a.length:Int)+1)/\
 lz 4 ((a.length:Int)+1) ((a.length:Int)+1)/\
 bk (σ:=Int×(List Int)) (0,(ek ((a.length:Int)+1) 0)) λ⟨x,out⟩ next1=>
  ah (decide (x<(a.length:Int)))
   (((0:Int)<=x/\x<(a.length:Int))/\
   ((0:Int)<=n/\n<=64)/\
   gX (IntKind.wrap .u64 ((IntKind.wrap .u64 (at' a x))*2^(Int.toNat n))) λy1=>
   ((0:Int)<=x/\x<(out.length:Int))/\
   ((0:Int)<=x/\x<(out.length:Int))/\
   rng (x+1)/\
   ((0:Int)<=(x+1)/\(x+1)<(out.length:Int))/\
   rng (x+1)/\
   next1 ((x+1),(b6 (b6 out x (bits .or .u32 (at' out x) (IntKind.wrap .u32 y1))) (x+1) (IntKind.wrap .u32 (y1 / 2^(Int.toNat 32))))))
   (Q out)
def bO (a:List Int) (i:Int) (Q:Int->Prop):Prop:=
 ah (decide (i<(a.length:Int)))
  (((0:Int)<=i/\i<(a.length:Int))/\
  Q (IntKind.wrap .u64 (at' a i)))
  (Q 0)
def gz (u:List Int) (uo:Nat) (ul:Nat) (v:List Int) (n:Int) (Q:List Int->Bool->Prop):Prop:=
 bk (σ:=Int×Int×Int×(List Int)) (0,0,0,u) λ⟨carry,borrow,x,u1⟩ next1=>
  ah (decide (x<(ul:Int)))
   (bO v x λr=>
   gX (IntKind.wrap .u64 (carry+(IntKind.wrap .u64 (n*r)))) λcarry1=>
   ((0:Int)<=x/\x<(ul:Int))/\
   (Int.toNat ((uo:Int)+x))<u1.length/\
   gX (IntKind.wrap .u64 ((IntKind.wrap .u64 ((IntKind.wrap .u64 (at' u1 ((uo:Int)+x)))-(IntKind.wrap .u64 (IntKind.wrap .u32 carry1))))-borrow)) λd=>
   ((0:Int)<=x/\x<(ul:Int))/\
   (Int.toNat ((uo:Int)+x))<u1.length/\
   rng (x+1)/\
   next1 ((carry1 / 2^(Int.toNat 32)),(d / 2^(Int.toNat 63)),(x+1),(b6 u1 ((uo:Int)+x) (IntKind.wrap .u32 d))))
   (Q u1 (borrow == 1))
def gA (u:List Int) (uo:Nat) (ul:Nat) (v:List Int) (Q:List Int->Prop):Prop:=
 bk (σ:=Int×Int×(List Int)) (0,0,u) λ⟨carry,x,u1⟩ next1=>
  ah (decide (x<(ul:Int)))
   (((0:Int)<=x/\x<(ul:Int))/\
   (Int.toNat ((uo:Int)+x))<u1.length/\
   eq (bO v x) λr=>
   ((0:Int)<=x/\x<(ul:Int))/\
   (Int.toNat ((uo:Int)+x))<u1.length/\
   gX ((IntKind.wrap .u64 (carry+(IntKind.wrap .u64 ((IntKind.wrap .u64 (at' u1 ((uo:Int)+x)))+r)))) / 2^(Int.toNat 32)) λcarry1=>
   rng (x+1)/\
   next1 (carry1,(x+1),(b6 u1 ((uo:Int)+x) (IntKind.wrap .u32 (IntKind.wrap .u64 (carry+(IntKind.wrap .u64 ((IntKind.wrap .u64 (at' u1 ((uo:Int)+x)))+r))))))))
   (Q u1)
def ez (a:List Int) (n:Int) (Q:List Int->Prop):Prop:=
 lz 4 (a.length:Int) (a.length:Int)/\
 bk (σ:=Int×(List Int)) (0,(ek (a.length:Int) 0)) λ⟨x,out⟩ next1=>
  ah (decide (x<(a.length:Int)))
   (bO a x λr=>
   rng (x+1)/\
   bO a (x+1) λr1=>
   ((0:Int)<=n/\n<=64)/\
   ((0:Int)<=x/\x<(out.length:Int))/\
   rng (x+1)/\
   next1 ((x+1),(b6 out x (IntKind.wrap .u32 ((bits .or .u64 r (IntKind.wrap .u64 (r1*2^(Int.toNat 32)))) / 2^(Int.toNat n))))))
   (Q out)
def ep (a:List Int) (b:List Int) (Q:List Int->List Int->Option Int->Prop):Prop:=
 bi a λa1=>
 bi b λb1=>
 ah ((b1.length:Int) == 0)
  (Q [] [] (some 8))
  (cm a1 b1 λr=>
  ah (decide (r<0))
   (Q [] a1 none)
   (ah ((b1.length:Int) == 1)
    (((0:Int)<=0/\0<(b1.length:Int))/\
    ey a1 (at' b1 0) λr1 r2=>
    gd (IntKind.wrap .i64 r2) λr3=>
    Q r1 r3 none)
    (rng ((b1.length:Int)-1)/\
    ((0:Int)<=((b1.length:Int)-1)/\((b1.length:Int)-1)<(b1.length:Int))/\
    cN (at' b1 ((b1.length:Int)-1)) λn=>
    cM b1 n λr4=>
    ((0:Int)<=0/\0<=(b1.length:Int)/\(b1.length:Int)<=(r4.length:Int))/\
    gX (eh r4 0 (b1.length:Int)) λv=>
    cM a1 n λu=>
    rng ((v.length:Int)-1)/\
    ((0:Int)<=((v.length:Int)-1)/\((v.length:Int)-1)<(v.length:Int))/\
    rng ((v.length:Int)-2)/\
    ((0:Int)<=((v.length:Int)-2)/\((v.length:Int)-2)<(v.length:Int))/\
    rng ((u.length:Int)-(v.length:Int))/\
    lz 4 ((u.length:Int)-(v.length:Int)) ((u.length:Int)-(v.length:Int))/\
    rng (((Int.toNat ((u.length:Int)-(v.length:Int))):Int)-1)/\
    gX (((Int.toNat ((u.length:Int)-(v.length:Int))):Int)-1) λj=>
    bk (σ:=Int×(List Int)×(List Int)) (j,u,(ek ((u.length:Int)-(v.length:Int)) 0)) λ⟨j1,u1,q⟩ next1=>
     ah (decide (0<=j1))
      (rng (j1+(v.length:Int))/\
      ((0:Int)<=(j1+(v.length:Int))/\(j1+(v.length:Int))<(u1.length:Int))/\
      rng (j1+(v.length:Int))/\
      rng ((j1+(v.length:Int))-1)/\
      ((0:Int)<=((j1+(v.length:Int))-1)/\((j1+(v.length:Int))-1)<(u1.length:Int))/\
      (IntKind.wrap .u64 (at' v ((v.length:Int)-1)))≠0/\
      (IntKind.wrap .u64 (at' v ((v.length:Int)-1)))≠0/\
      c6 (α:=Int) (λnext3=>
       bk (σ:=Int×Int) ((IntKind.wrap .u64 (Int.tdiv (bits .or .u64 (IntKind.wrap .u64 ((IntKind.wrap .u64 (at' u1 (j1+(v.length:Int))))*2^(Int.toNat 32))) (IntKind.wrap .u64 (at' u1 ((j1+(v.length:Int))-1)))) (IntKind.wrap .u64 (at' v ((v.length:Int)-1))))),(Int.tmod (bits .or .u64 (IntKind.wrap .u64 ((IntKind.wrap .u64 (at' u1 (j1+(v.length:Int))))*2^(Int.toNat 32))) (IntKind.wrap .u64 (at' u1 ((j1+(v.length:Int))-1)))) (IntKind.wrap .u64 (at' v ((v.length:Int)-1))))) λ⟨guess2,rest⟩ next4=>
        c6 (α:=Unit) (λnext5=>
         ah (decide (4294967296<=guess2))
          (next5 ())
          (rng (j1+(v.length:Int))/\
          rng ((j1+(v.length:Int))-2)/\
          ((0:Int)<=((j1+(v.length:Int))-2)/\((j1+(v.length:Int))-2)<(u1.length:Int))/\
          ah (decide ((bits .or .u64 (IntKind.wrap .u64 (rest*2^(Int.toNat 32))) (IntKind.wrap .u64 (at' u1 ((j1+(v.length:Int))-2))))<(IntKind.wrap .u64 (guess2*(IntKind.wrap .u64 (at' v ((v.length:Int)-2)))))))
           (next5 ())
           (next3 guess2)))
         λ_=>
         gX (IntKind.wrap .u64 (rest+(IntKind.wrap .u64 (at' v ((v.length:Int)-1))))) λrest1=>
         ah (decide (4294967296<=rest1))
          (next3 (IntKind.wrap .u64 (guess2-1)))
          (next4 ((IntKind.wrap .u64 (guess2-1)),rest1)))
       λguess=>
       c6 (α:=Int×(List Int)) (λnext2=>
        rng (j1+(v.length:Int))/\
        rng ((j1+(v.length:Int))+1)/\
        ((0:Int)<=j1/\j1<=((j1+(v.length:Int))+1)/\((j1+(v.length:Int))+1)<=(u1.length:Int))/\
        gz u1 (0+Int.toNat j1) (Int.toNat ((j1+(v.length:Int))+1)-Int.toNat j1) v guess λu3 r5=>
        u3.length=u1.length/\
        ah r5
         (rng (j1+(v.length:Int))/\
         rng ((j1+(v.length:Int))+1)/\
         ((0:Int)<=j1/\j1<=((j1+(v.length:Int))+1)/\((j1+(v.length:Int))+1)<=(u1.length:Int))/\
         gA u3 (0+Int.toNat j1) (Int.toNat ((j1+(v.length:Int))+1)-Int.toNat j1) v λu4=>
         u4.length=u3.length/\
         next2 ((IntKind.wrap .u64 (guess-1)),u4))
         (next2 (guess,u3)))
        λ⟨guess1,u2⟩=>
        ((0:Int)<=j1/\j1<(q.length:Int))/\
        rng (j1-1)/\
        next1 ((j1-1),u2,(b6 q j1 (IntKind.wrap .u32 guess1))))
      (bi q λq1=>
      ez u1 n λr6=>
      bi r6 λr7=>
      Q q1 r7 none))))
def fu (a:List Int) (b:List Int) (Q:List Int->Prop):Prop:=
 bi a λa1=>
 bi b λb1=>
 bk (σ:=(List Int)×(List Int)) (a1,b1) λ⟨a2,b2⟩ next1=>
  ah (decide (0<(b2.length:Int)))
   (ep a2 b2 λ_ r1 _=>
   next1 (b2,r1))
   (Q a2)
def gB (a:List Int) (Q:Int->Prop):Prop:=
 rng ((a.length:Int)-1)/\
 bk (σ:=Int) ((a.length:Int)-1) λi next1=>
  ah (decide (0<=i))
   (((0:Int)<=i/\i<(a.length:Int))/\
   ah ((at' a i) != 0)
    (rng (32*i)/\
    ((0:Int)<=i/\i<(a.length:Int))/\
    dE (at' a i) λr=>
    rng ((32*i)+r)/\
    Q ((32*i)+r))
    (rng (i-1)/\
    next1 (i-1)))
   (Q 0)
def bY (a:List Int) (b:List Int) (Q:List Int->Prop):Prop:=
 rng ((a.length:Int)+(b.length:Int))/\
 lz 4 ((a.length:Int)+(b.length:Int)) ((a.length:Int)+(b.length:Int))/\
 bk (σ:=Int×(List Int)) (0,(ek ((a.length:Int)+(b.length:Int)) 0)) λ⟨x,out⟩ next1=>
  ah (decide (x<(a.length:Int)))
   (((0:Int)<=x/\x<(a.length:Int))/\
   bk (σ:=Int×Int×(List Int)) (0,0,out) λ⟨carry,x1,out1⟩ next2=>
    ah (decide (x1<(b.length:Int)))
     (((0:Int)<=x1/\x1<(b.length:Int))/\
     rng (x+x1)/\
     ((0:Int)<=(x+x1)/\(x+x1)<(out1.length:Int))/\
     gX (IntKind.wrap .u64 (carry+(IntKind.wrap .u64 ((IntKind.wrap .u64 ((IntKind.wrap .u64 (at' a x))*(IntKind.wrap .u64 (at' b x1))))+(IntKind.wrap .u64 (at' out1 (x+x1))))))) λcarry1=>
     rng (x+x1)/\
     ((0:Int)<=(x+x1)/\(x+x1)<(out1.length:Int))/\
     rng (x1+1)/\
     next2 ((carry1 / 2^(Int.toNat 32)),(x1+1),(b6 out1 (x+x1) (IntKind.wrap .u32 carry1))))
     (rng (x+(b.length:Int))/\
     ((0:Int)<=(x+(b.length:Int))/\(x+(b.length:Int))<(out1.length:Int))/\
     rng (x+1)/\
     next1 ((x+1),(b6 out1 (x+(b.length:Int)) (IntKind.wrap .u32 carry)))))
   (bi out λr=>
   Q r)
def fv (a:List Int) (b:List Int) (Q:List Int->Prop):Prop:=
 rng ((max (a.length:Int) (b.length:Int))+1)/\
 lz 4 ((max (a.length:Int) (b.length:Int))+1) ((max (a.length:Int) (b.length:Int))+1)/\
 bk (σ:=Int×Int×(List Int)) (0,0,(ek ((max (a.length:Int) (b.length:Int))+1) 0)) λ⟨carry,x,out⟩ next1=>
  ah (decide (x<((Int.toNat ((max (a.length:Int) (b.length:Int))+1)):Int)))
   (bO a x λr=>
   bO b x λr1=>
   gX (IntKind.wrap .u64 (carry+(IntKind.wrap .u64 (r+r1)))) λcarry1=>
   ((0:Int)<=x/\x<(out.length:Int))/\
   rng (x+1)/\
   next1 ((carry1 / 2^(Int.toNat 32)),(x+1),(b6 out x (IntKind.wrap .u32 carry1))))
   (bi out λr2=>
   Q r2)
def ft (a:List Int) (b:List Int) (Q:List Int->Option Int->Prop):Prop:=
 cm a b λr=>
 ah (decide (r<0))
  (Q [] (some 3))
  (lz 4 (a.length:Int) (a.length:Int)/\
  bk (σ:=Int×Int×(List Int)) (0,0,(ek (a.length:Int) 0)) λ⟨borrow,x,out⟩ next1=>
   ah (decide (x<((Int.toNat (a.length:Int)):Int)))
    (bO a x λr1=>
    bO b x λr2=>
    gX (IntKind.wrap .u64 ((IntKind.wrap .u64 (r1-r2))-borrow)) λd=>
    ((0:Int)<=x/\x<(out.length:Int))/\
    rng (x+1)/\
    next1 ((d / 2^(Int.toNat 63)),(x+1),(b6 out x (IntKind.wrap .u32 d))))
    (bi out λr3=>
    Q r3 none))
def gb (a:List Int) (Q:Int->Prop):Prop:=
 bk (σ:=Int×Int) (0,0) λ⟨n,x⟩ next1=>
  ah (decide (x<(a.length:Int)))
   (((0:Int)<=x/\x<(a.length:Int))/\
   bk (σ:=Int×Int) (n,0) λ⟨n1,x1⟩ next2=>
    ah (decide (x1<32))
     (((0:Int)<=x1/\x1<=32)/\
     ah ((bits .and .u32 ((at' a x) / 2^(Int.toNat x1)) 1) == 1)
      (rng (32*x)/\
      rng ((32*x)+x1)/\
      rng (((32*x)+x1)+1)/\
      rng (x1+1)/\
      next2 ((((32*x)+x1)+1),(x1+1)))
      (rng (x1+1)/\
      next2 (n1,(x1+1))))
     (rng (x+1)/\
     next1 (n1,(x+1))))
   (Q n)
def b8 (a:List Int) (Q:List Int->Prop):Prop:=
 c6 (α:=Int) (λnext1=>
  bk (σ:=Int) (a.length:Int) λn1 next2=>
   ah (decide (0<n1))
    (rng (n1-1)/\
    ((0:Int)<=(n1-1)/\(n1-1)<(a.length:Int))/\
    ah ((at' a (n1-1)) == 0)
     (rng (n1-1)/\
     next2 (n1-1))
     (next1 n1))
    (next1 n1))
  λn=>
  ((0:Int)<=0/\0<=n/\n<=(a.length:Int))/\
  ((([]:List Int)++(eh a 0 n)).length*4<=140737488355328)/\
  Q (([]:List Int)++(eh a 0 n))
def iI (a:List Int) (s:Int) (Q:List Int->Prop):Prop:=
 bk (σ:=Int×Int×(List Int)) (0,0,[]) λ⟨carry,x,out⟩ next1=>
  ah (decide (x<(a.length:Int)))
   (((0:Int)<=x/\x<(a.length:Int))/\
   ((0:Int)<=s/\s<=64)/\
   gX (bits .or .u64 carry (IntKind.wrap .u64 ((IntKind.wrap .u64 (at' a x))*2^(Int.toNat s)))) λcarry1=>
   ((out++[(IntKind.wrap .u32 carry1)]).length*4<=140737488355328)/\
   rng (x+1)/\
   next1 ((carry1 / 2^(Int.toNat 32)),(x+1),(out++[(IntKind.wrap .u32 carry1)])))
   (((out++[(IntKind.wrap .u32 carry)]).length*4<=140737488355328)/\
   b8 (out++[(IntKind.wrap .u32 carry)]) λr=>
   Q r)
def bA (a:List Int) (i:Int) (Q:Int->Prop):Prop:=
 ah (decide (i<(a.length:Int)))
  (((0:Int)<=i/\i<(a.length:Int))/\
  Q (IntKind.wrap .u64 (at' a i)))
  (Q 0)
def gP (a:List Int) (b:List Int) (Q:List Int->Prop):Prop:=
 rng ((a.length:Int)+(b.length:Int))/\
 rng (((a.length:Int)+(b.length:Int))+1)/\
 lz 4 (((a.length:Int)+(b.length:Int))+1) (((a.length:Int)+(b.length:Int))+1)/\
 bk (σ:=Int×(List Int)) (0,(ek (((a.length:Int)+(b.length:Int))+1) 0)) λ⟨x,out⟩ next1=>
  ah (decide (x<(a.length:Int)))
   (((0:Int)<=x/\x<(a.length:Int))/\
   rng ((b.length:Int)+1)/\
   bk (σ:=Int×Int×(List Int)) (0,0,out) λ⟨carry,x1,out1⟩ next2=>
    ah (decide (x1<((b.length:Int)+1)))
     (eq (bA b x1) λr=>
     rng (x+x1)/\
     ((0:Int)<=(x+x1)/\(x+x1)<(out1.length:Int))/\
     rng (x+x1)/\
     ((0:Int)<=(x+x1)/\(x+x1)<(out1.length:Int))/\
     gX ((IntKind.wrap .u64 ((IntKind.wrap .u64 ((IntKind.wrap .u64 ((IntKind.wrap .u64 (at' a x))*r))+(IntKind.wrap .u64 (at' out1 (x+x1)))))+carry)) / 2^(Int.toNat 32)) λcarry1=>
     rng (x1+1)/\
     next2 (carry1,(x1+1),(b6 out1 (x+x1) (IntKind.wrap .u32 (IntKind.wrap .u64 ((IntKind.wrap .u64 ((IntKind.wrap .u64 ((IntKind.wrap .u64 (at' a x))*r))+(IntKind.wrap .u64 (at' out1 (x+x1)))))+carry))))))
     (rng (x+1)/\
     next1 ((x+1),out1)))
   (b8 out λr1=>
   Q r1)
def fF (a:List Int) (b:List Int) (Q:Int->Prop):Prop:=
 rng ((max (a.length:Int) (b.length:Int))-1)/\
 gX ((max (a.length:Int) (b.length:Int))-1) λi=>
 bk (σ:=Int) i λi1 next1=>
  ah (decide (0<=i1))
   (bA a i1 λr=>
   bA b i1 λr1=>
   ah (decide (r<r1))
    (Q (-1))
    (bA a i1 λr2=>
    bA b i1 λr3=>
    ah (decide (r3<r2))
     (Q 1)
     (rng (i1-1)/\
     next1 (i1-1))))
   (Q 0)
def gO (a:List Int) (b:List Int) (Q:List Int->Int->Prop):Prop:=
 fF a b λr=>
 ah (decide (r<0))
  (Q [] 3)
  (bk (σ:=Int×Int×(List Int)) (0,0,[]) λ⟨borrow,x,out⟩ next1=>
   ah (decide (x<(a.length:Int)))
    (bA a x λr1=>
    bA b x λr2=>
    gX (IntKind.wrap .u64 ((IntKind.wrap .u64 (r1-r2))-borrow)) λs=>
    ((out++[(IntKind.wrap .u32 s)]).length*4<=140737488355328)/\
    rng (x+1)/\
    next1 ((s / 2^(Int.toNat 63)),(x+1),(out++[(IntKind.wrap .u32 s)])))
    (b8 out λr3=>
    Q r3 0))
def ga (a:List Int) (s:Int) (Q:List Int->Prop):Prop:=
 bk (σ:=Int×(List Int)) (0,[]) λ⟨x,out⟩ next1=>
  ah (decide (x<(a.length:Int)))
   (bA a x λr=>
   rng (x+1)/\
   bA a (x+1) λr1=>
   ((0:Int)<=s/\s<=64)/\
   ((out++[(IntKind.wrap .u32 ((bits .or .u64 r (IntKind.wrap .u64 (r1*2^(Int.toNat 32)))) / 2^(Int.toNat s)))]).length*4<=140737488355328)/\
   rng (x+1)/\
   next1 ((x+1),(out++[(IntKind.wrap .u32 ((bits .or .u64 r (IntKind.wrap .u64 (r1*2^(Int.toNat 32)))) / 2^(Int.toNat s)))])))
   (b8 out λr2=>
   Q r2)
def fE (a:List Int) (b:List Int) (Q:List Int->List Int->Int->Prop):Prop:=
 b8 b λb1=>
 ah ((b1.length:Int) == 0)
  (Q [] [] 8)
  (bk (σ:=Int) 0 λs next1=>
   rng ((b1.length:Int)-1)/\
   ((0:Int)<=((b1.length:Int)-1)/\((b1.length:Int)-1)<(b1.length:Int))/\
   ((0:Int)<=s/\s<=32)/\
   ah ((bits .and .u32 (IntKind.wrap .u32 ((at' b1 ((b1.length:Int)-1))*2^(Int.toNat s))) 2147483648) == 0)
    (rng (s+1)/\
    next1 (s+1))
    (iI a s λa1=>
    iI b1 s λb2=>
    lz 4 (a1.length:Int) (a1.length:Int)/\
    rng ((a1.length:Int)-(b1.length:Int))/\
    rng (((a1.length:Int)-(b1.length:Int))+1)/\
    ((0:Int)<=(max 0 (((a1.length:Int)-(b1.length:Int))+1))/\(max 0 (((a1.length:Int)-(b1.length:Int))+1))<=(a1.length:Int)/\(a1.length:Int)<=(a1.length:Int))/\
    ((([]:List Int)++(eh a1 (max 0 (((a1.length:Int)-(b1.length:Int))+1)) (a1.length:Int))).length*4<=140737488355328)/\
    rng ((a1.length:Int)-(b1.length:Int))/\
    bk (σ:=(List Int)×Int×(List Int)) ((([]:List Int)++(eh a1 (max 0 (((a1.length:Int)-(b1.length:Int))+1)) (a1.length:Int))),((a1.length:Int)-(b1.length:Int)),(ek (a1.length:Int) 0)) λ⟨r,i,q⟩ next2=>
     ah (decide (0<=i))
      (((0:Int)<=i/\i<(a1.length:Int))/\
      (([(at' a1 i)]++r).length*4<=140737488355328)/\
      b8 ([(at' a1 i)]++r) λr1=>
      bA r1 (b1.length:Int) λr2=>
      rng ((b1.length:Int)-1)/\
      bA r1 ((b1.length:Int)-1) λr3=>
      rng ((b1.length:Int)-1)/\
      bA b2 ((b1.length:Int)-1) λr4=>
      r4≠0/\
      gX (min (IntKind.wrap .u64 (Int.tdiv (bits .or .u64 (IntKind.wrap .u64 (r2*2^(Int.toNat 32))) r3) r4)) 4294967295) λguess=>
      gP b2 [(IntKind.wrap .u32 guess)] λp=>
      bk (σ:=Int×(List Int)) (guess,p) λ⟨guess1,p1⟩ next3=>
       fF p1 r1 λr5=>
       ah (decide (0<r5))
        (gO p1 b2 λr6 _=>
        next3 ((IntKind.wrap .u64 (guess1-1)),r6))
        (gO r1 p1 λr8 _=>
        ((0:Int)<=i/\i<(q.length:Int))/\
        rng (i-1)/\
        next2 (r8,(i-1),(b6 q i (IntKind.wrap .u32 guess1)))))
      (b8 q λr10=>
      ga r s λr11=>
      Q r10 r11 0)))
def jc (a:List Int) (b:List Int) (Q:List Int->Prop):Prop:=
 b8 a λa1=>
 b8 b λb1=>
 bk (σ:=(List Int)×(List Int)) (a1,b1) λ⟨a2,b2⟩ next1=>
  ah (decide (0<(b2.length:Int)))
   (fE a2 b2 λ_ r1 _=>
   next1 (b2,r1))
   (Q a2)
end Go.Gg
namespace Go.Gg
def gg (a:List Int) (b:List Int) (Q:Bool->Prop):Prop:=
 ah ((a.length:Int) != (b.length:Int))
  (Q false)
  (bk (σ:=Int) 0 λx next1=>
   ah (decide (x<(a.length:Int)))
    (((0:Int)<=x/\x<(a.length:Int))/\
    ((0:Int)<=x/\x<(b.length:Int))/\
    ah ((at' a x) != (at' b x))
     (Q false)
     (rng (x+1)/\
     next1 (x+1)))
    (Q true))
def dU (a:GRat) (b:GRat) (Q:Bool->Prop):Prop:=
 ah (a.Neg == b.Neg)
  (gg a.Num b.Num λr=>
  ah r
   (gg a.Den b.Den λr1=>
   Q r1)
   (Q false))
  (Q false)
def dT (a:List GRat) (b:List GRat) (Q:Bool->Prop):Prop:=
 ah ((a.length:Int) != (b.length:Int))
  (Q false)
  (bk (σ:=Int) 0 λx next1=>
   ah (decide (x<(a.length:Int)))
    (((0:Int)<=x/\x<(a.length:Int))/\
    ((0:Int)<=x/\x<(b.length:Int))/\
    eq (dU (at' a x) (at' b x)) λr=>
    ah (!r)
     (Q false)
     (rng (x+1)/\
     next1 (x+1)))
    (Q true))
def eO (Q:List Int->Prop):Prop:=
 Q [1]
def d7 (a:List Int) (Q:Bool->Prop):Prop:=
 ah (decide (0<(a.length:Int)))
  (rng ((a.length:Int)-1)/\
  ((0:Int)<=((a.length:Int)-1)/\((a.length:Int)-1)<(a.length:Int))/\
  Q ((at' a ((a.length:Int)-1)) != 0))
  (Q false)
def d8 (a:GRat) (Q:Bool->Prop):Prop:=
 c6 (α:=Bool) (λnext1=>
  ah ((a.Num.length:Int) == 0)
   (next1 ((a.Den.length:Int) == 0))
   (next1 false))
  λx=>
  ah x
   (Q (!a.Neg))
   (d7 a.Num λr=>
   ah r
    (d7 a.Den λr1=>
    ah r1
     (fu a.Num a.Den λr2=>
     eO λr3=>
     cm r2 r3 λr4=>
     Q (r4 == 0))
     (Q false))
    (Q false))
def bz (a:GRat) (Q:Bool->List Int->List Int->Prop):Prop:=
 c6 (α:=Bool) (λnext1=>
  d8 a λr1=>
  ah (!r1)
   (next1 true)
   (next1 ((a.Num.length:Int) == 0)))
  λx=>
  ah x
   (eO λr=>
   Q false [] r)
   (Q a.Neg a.Num a.Den)
def cz (a:GRat) (Q:Int->Prop):Prop:=
 bz a λr r1 _=>
 ah ((r1.length:Int) == 0)
  (Q 0)
  (ah r
   (Q (-1))
   (Q 1))
def fO (a:GRat) (Q:Bool->Prop):Prop:=
 d8 a λr=>
 ah r
  (ah (!a.Neg)
   (cm a.Num a.Den λr1=>
   Q (decide (r1<=0)))
   (Q false))
  (Q false)
def bF (neg:Bool) (num:List Int) (den:List Int) (Q:GRat->Prop):Prop:=
 gB num λr=>
 ah (r == 0)
  (Q (⟨false,[],[]⟩:GRat))
  (fu num den λg2=>
  ep num g2 λr1 _ _=>
  ep den g2 λr4 _ _=>
  Q (⟨neg,r1,r4⟩:GRat))
def cK (a:GRat) (b:GRat) (Q:GRat->Prop):Prop:=
 bz a λr r1 r2=>
 bz b λr3 r4 r5=>
 bY r1 r4 λr6=>
 bY r2 r5 λr7=>
 bF (r != r3) r6 r7 λr8=>
 Q r8
def gx (a:GRat) (b:GRat) (Q:GRat->Prop):Prop:=
 bz a λr r1 r2=>
 bz b λr3 r4 r5=>
 bY r1 r5 λp=>
 bY r4 r2 λq=>
 bY r2 r5 λden=>
 ah (r == r3)
  (fv p q λr6=>
  bF r r6 den λr7=>
  Q r7)
  (cm p q λr8=>
  ah (decide (0<=r8))
   (ft p q λr9 _=>
   bF r r9 den λr11=>
   Q r11)
   (ft q p λr12 _=>
   bF r3 r12 den λr14=>
   Q r14))
def gv (a:GRat) (Q:GRat->Prop):Prop:=
 bz a λr r1 r2=>
 bF (!r) r1 r2 λr3=>
 Q r3
def co (a:GRat) (b:GRat) (Q:GRat->Prop):Prop:=
 eq (gv b) λr=>
 eq (gx a r) λr1=>
 Q r1
def fN (n:Int) (Q:List Int->Prop):Prop:=
 ah (n == (-9223372036854775808))
  (Q [0,2147483648])
  (rng (-n)/\
  gd (max n (-n)) λr=>
  Q r)
def dw (n:Int) (Q:GRat->Prop):Prop:=
 fN n λr=>
 eO λr1=>
 bF (decide (n<0)) r r1 λr2=>
 Q r2
def c9 (a:GRat) (b:GRat) (Q:GRat->Option Int->Prop):Prop:=
 bz a λr r1 r2=>
 bz b λr3 r4 r5=>
 ah ((r4.length:Int) == 0)
  (Q (⟨false,[],[]⟩:GRat) (some 8))
  (bY r1 r5 λr6=>
  bY r2 r4 λr7=>
  bF (r != r3) r6 r7 λr8=>
  Q r8 none)
def iH (neg:Bool) (num:List Int) (den:List Int) (Q:GRat->Int->Prop):Prop:=
 gb den λr=>
 ah (r == 0)
  (Q (⟨false,[],[]⟩:GRat) 8)
  (gb num λr1=>
  ah (r1 == 0)
   (Q (⟨false,[],[]⟩:GRat) 0)
   (jc num den λg2=>
   fE num g2 λr2 _ _=>
   fE den g2 λr5 _ _=>
   Q (⟨neg,r2,r5⟩:GRat) 0))
def f8 (n:Int) (Q:List Int->Prop):Prop:=
 c6 (α:=Int) (λnext1=>
  ah (decide (n<0))
   (gX (IntKind.wrap .u64 (0-(IntKind.wrap .u64 n))) λu1=>
   next1 u1)
   (next1 (IntKind.wrap .u64 n)))
  λu=>
  Q [(IntKind.wrap .u32 u),(IntKind.wrap .u32 (u / 2^(Int.toNat 32)))]
def f_ (n:Int) (d:Int) (Q:GRat->Int->Prop):Prop:=
 f8 n λr=>
 f8 d λr1=>
 iH ((decide (n<0)) != (decide (d<0))) r r1 λr2 r3=>
 Q r2 r3
def iG (n:Int) (Q:GRat->Prop):Prop:=
 f_ n 1 λr _=>
 Q r
def dJ (a:GRat) (b:GRat) (Q:Int->Prop):Prop:=
 co a b λr=>
 cz r λr1=>
 Q r1
def ju (a:List Int) (b:List Int) (Q:Bool->Prop):Prop:=
 ah ((a.length:Int) != (b.length:Int))
  (Q false)
  (bk (σ:=Int) 0 λx next1=>
   ah (decide (x<(a.length:Int)))
    (((0:Int)<=x/\x<(a.length:Int))/\
    ((0:Int)<=x/\x<(b.length:Int))/\
    ah ((at' a x) != (at' b x))
     (Q false)
     (rng (x+1)/\
     next1 (x+1)))
    (Q true))
def gL (a:GFormula) (b:GFormula) (Q:Bool->Prop):Prop:=
 ah (a.Vars != b.Vars)
  (Q false)
  (ah (a.Top != b.Top)
   (Q false)
   (ah ((a.Nodes.length:Int) != (b.Nodes.length:Int))
    (Q false)
    (bk (σ:=Int) 0 λx next1=>
     ah (decide (x<(a.Nodes.length:Int)))
      (((0:Int)<=x/\x<(a.Nodes.length:Int))/\
      ((0:Int)<=x/\x<(b.Nodes.length:Int))/\
      ah ((at' a.Nodes x).Kind != (at' b.Nodes x).Kind)
       (Q false)
       (((0:Int)<=x/\x<(a.Nodes.length:Int))/\
       ((0:Int)<=x/\x<(b.Nodes.length:Int))/\
       ah ((at' a.Nodes x).K != (at' b.Nodes x).K)
        (Q false)
        (((0:Int)<=x/\x<(a.Nodes.length:Int))/\
        ((0:Int)<=x/\x<(b.Nodes.length:Int))/\
        eq (ju ((at' a.Nodes x).Args) ((at' b.Nodes x).Args)) λr=>
        ah (!r)
         (Q false)
         (rng (x+1)/\
         next1 (x+1)))))
      (Q true))))
end Go.Gg
namespace Go.Gg
def eg (kind:Int) (n:Int) (Q:Bool->Prop):Prop:=
 ah (kind == 0)
  (Q (n == 0))
  (ah (kind == 1)
   (Q (n == 1))
   (ah (decide (1<=n))
    (Q (decide (n<=16)))
    (Q false)))
def ee (f:GFormula) (i:Int) (Q:Option Int->Prop):Prop:=
 ((0:Int)<=i/\i<(f.Nodes.length:Int))/\
 c6 (α:=Bool) (λnext5=>
  ah (decide ((at' f.Nodes i).Kind<0))
   (next5 true)
   (next5 (decide (5<(at' f.Nodes i).Kind))))
  λx=>
  ah x
   (Q (some 7))
   (eg ((at' f.Nodes i).Kind) (((at' f.Nodes i).Args).length:Int) λr=>
   ah (!r)
    (Q (some 11))
    (bk (σ:=Int) 0 λx1 next1=>
     ah (decide (x1<(((at' f.Nodes i).Args).length:Int)))
      (((0:Int)<=x1/\x1<(((at' f.Nodes i).Args).length:Int))/\
      c6 (α:=Bool) (λnext2=>
       ah (decide ((at' ((at' f.Nodes i).Args) x1)<0))
        (next2 true)
        (rng (f.Vars+i)/\
        next2 (decide ((f.Vars+i)<=(at' ((at' f.Nodes i).Args) x1)))))
       λx2=>
       ah x2
        (Q (some 10))
        (rng (x1+1)/\
        next1 (x1+1)))
      (ah ((at' f.Nodes i).Kind == 0)
       (c6 (α:=Bool) (λnext3=>
        ah ((at' f.Nodes i).K != 0)
         (next3 ((at' f.Nodes i).K != 1))
         (next3 false))
        λx3=>
        ah x3
         (Q (some 3))
         (Q none))
       (ah ((at' f.Nodes i).Kind == 4)
        (c6 (α:=Bool) (λnext4=>
         ah (decide ((at' f.Nodes i).K<1))
          (next4 true)
          (next4 (decide ((((at' f.Nodes i).Args).length:Int)<(at' f.Nodes i).K))))
         λx4=>
         ah x4
          (Q (some 3))
          (Q none))
        (ah ((at' f.Nodes i).K != 0)
         (Q (some 2))
         (Q none))))))
def fS (f:GFormula) (arg:Int) (Q:Bool->Prop):Prop:=
 ah (decide (0<=f.Vars))
  (ah (decide (0<=arg))
   (ah (decide (arg<f.Vars))
    (Q true)
    (rng (arg-f.Vars)/\
    Q (decide ((arg-f.Vars)<(f.Nodes.length:Int)))))
   (Q false))
  (Q false)
def fT (f:GFormula) (Q:Option Int->Prop):Prop:=
 c6 (α:=Bool) (λnext2=>
  ah (decide (f.Vars<0))
   (next2 true)
   (next2 (decide (24<f.Vars))))
  λx=>
  ah x
   (Q (some 3))
   (ah (decide (128<(f.Nodes.length:Int)))
    (Q (some 4))
    (bk (σ:=Int) 0 λx1 next1=>
     ah (decide (x1<(f.Nodes.length:Int)))
      (ee f x1 λe=>
      ah (Option.isSome e)
       (Q e)
       (rng (x1+1)/\
       next1 (x1+1)))
      (fS f f.Top λr=>
      ah (!r)
       (Q (some 10))
       (Q none))))
end Go.Gg
namespace Go.Gg
def h9 (f:GFormula) (Q:Bool->Prop):Prop:=
 ah (decide (200<(f.Nodes.length:Int)))
  (Q false)
  (bk (σ:=Int) 0 λx next1=>
   ah (decide (x<(f.Nodes.length:Int)))
    (((0:Int)<=x/\x<(f.Nodes.length:Int))/\
    ah (decide (40<(((at' f.Nodes x).Args).length:Int)))
     (Q false)
     (rng (x+1)/\
     next1 (x+1)))
    (Q true))
def hZ (a:GRat) (Q:Bool->Prop):Prop:=
 ah (decide ((a.Num.length:Int)<=40))
  (Q (decide ((a.Den.length:Int)<=40)))
  (Q false)
def cF (v:Int) (s:List Int) (Q:Int->Prop):Prop:=
 bk (σ:=Int) 0 λx next1=>
  ah (decide (x<(s.length:Int)))
   (((0:Int)<=x/\x<(s.length:Int))/\
   ah (v == (at' s x))
    (Q x)
    (rng (x+1)/\
    next1 (x+1)))
   (Q (-1))
def bG (v:Int) (s:List Int) (Q:Bool->Prop):Prop:=
 cF v s λr=>
 Q (decide (0<=r))
def bH (s:List Int) (Q:List Int->Prop):Prop:=
 ∀isnil:Bool,(isnil=true->s=[])->
 ah isnil
  (Q [])
  (((([]:List Int)++s).length*4<=140737488355328)/\
  Q (([]:List Int)++s))
end Go.Gg
namespace Go.Gg
def iu (x:GRat) (Q:Bool->Prop):Prop:=
 fO x λr=>
 Q (!r)
def bd (s:List GRat) (Q:Int->Prop):Prop:=
 bk (σ:=Int) 0 λx next1=>
  ah (decide (x<(s.length:Int)))
   (((0:Int)<=x/\x<(s.length:Int))/\
   iu (at' s x) λr=>
   ah r
    (Q x)
    (rng (x+1)/\
    next1 (x+1)))
   (Q (-1))
def bt (s:List GRat) (Q:Bool->Prop):Prop:=
 bd s λr=>
 Q (decide (0<=r))
def cO (l:List GRat) (Q:Bool->Prop):Prop:=
 bt l λr=>
 Q (!r)
def fz (p:GRat) (beta:GRat) (Q:GRat->GRat->Option Int->Prop):Prop:=
 cO [p,beta] λr=>
 ah (!r)
  (Q (⟨false,[],[]⟩:GRat) (⟨false,[],[]⟩:GRat) (some 3))
  (cK beta p λr1=>
  eq (dw 1) λr2=>
  eq (co r2 r1) λr3=>
  cz r3 λr4=>
  ah (r4 == 0)
   (Q (⟨false,[],[]⟩:GRat) r1 none)
   (eq (co p r1) λr5=>
   tQ (c9 r5 r3) λr6 r7=>
   Q r6 r1 r7))
def fU (n:Int) (k1:Int) (Q:Int->Prop):Prop:=
 bk (σ:=Int×Int) (1,0) λ⟨out,x⟩ next1=>
  ah (decide (x<k1))
   (rng (n-x)/\
   rng (out*(n-x))/\
   rng (x+1)/\
   ((x+1)≠0/\rng (Int.tdiv (out*(n-x)) (x+1)))/\
   rng (x+1)/\
   next1 ((Int.tdiv (out*(n-x)) (x+1)),(x+1)))
   (Q out)
def eW (p:GRat) (factors:List GRat) (Q:List GRat->Option Int->Prop):Prop:=
 c6 (α:=Bool) (λnext4=>
  cO [p] λr8=>
  ah (!r8)
   (next4 true)
   (cO factors λr9=>
   next4 (!r9)))
  λx=>
  ah x
   (Q [] (some 3))
   (c6 (α:=Bool) (λnext3=>
    ah (decide ((factors.length:Int)<1))
     (next3 true)
     (next3 (decide (3<(factors.length:Int)))))
    λx1=>
    ah x1
     (Q [] (some 11))
     (rng ((factors.length:Int)+1)/\
     bk (σ:=Int×GRat×(List GRat)) (1,p,[]) λ⟨k1,x2,out⟩ next1=>
      ah (decide (k1<=((factors.length:Int)+1)))
       (c6 (α:=GRat×GRat) (λnext2=>
        ah (decide (k1<((factors.length:Int)+1)))
         (eq (dw 1) λr4=>
         rng (k1-1)/\
         ((0:Int)<=(k1-1)/\(k1-1)<(factors.length:Int))/\
         eq (co r4 (at' factors (k1-1))) λr5=>
         eq (cK x2 r5) λr6=>
         rng (k1-1)/\
         ((0:Int)<=(k1-1)/\(k1-1)<(factors.length:Int))/\
         eq (cK x2 (at' factors (k1-1))) λr7=>
         next2 (r7,r6))
         (next2 (x2,x2)))
        λ⟨x3,x4⟩=>
        rng (((factors.length:Int)+1)-1)/\
        rng (k1-1)/\
        eq (fU (((factors.length:Int)+1)-1) (k1-1)) λr=>
        eq (dw r) λr1=>
        tQ (c9 x4 r1) λr2 r3=>
        ah (Option.isSome r3)
         (Q [] r3)
         (((out++[r2]).length*56<=140737488355328)/\
         rng (k1+1)/\
         next1 ((k1+1),x3,(out++[r2]))))
       (Q out none)))
def dp (g1:GCauseGroup) (p:List GRat) (members:List Int) (Q:List Int->Option Int->Prop):Prop:=
 c6 (α:=Bool) (λnext6=>
  ah (g1.Kind != 0)
   (next6 (g1.Kind != 1))
   (next6 false))
  λx=>
  ah x
   (Q members (some 7))
   (c6 (α:=Int×Int) (λnext5=>
    ah (g1.Kind == 1)
     (rng ((g1.Members.length:Int)-1)/\
     next5 (4,((g1.Members.length:Int)-1)))
     (next5 (24,1)))
    λ⟨most,factors⟩=>
    c6 (α:=Bool) (λnext4=>
     ah (decide ((g1.Members.length:Int)<2))
      (next4 true)
      (ah (decide (most<(g1.Members.length:Int)))
       (next4 true)
       (next4 ((g1.Factors.length:Int) != factors))))
     λx1=>
     ah x1
      (Q members (some 11))
      (bk (σ:=Int×(List Int)) (0,members) λ⟨x2,members1⟩ next1=>
       ah (decide (x2<(g1.Members.length:Int)))
        (((0:Int)<=x2/\x2<(g1.Members.length:Int))/\
        c6 (α:=Bool) (λnext2=>
         ah (decide ((at' g1.Members x2)<0))
          (next2 true)
          (next2 (decide ((p.length:Int)<=(at' g1.Members x2)))))
         λx3=>
         ah x3
          (Q members1 (some 10))
          (bG (at' g1.Members x2) members1 λr=>
          ah r
           (Q members1 (some 6))
           (((members1++[(at' g1.Members x2)]).length*8<=140737488355328)/\
           rng (x2+1)/\
           next1 ((x2+1),(members1++[(at' g1.Members x2)])))))
        (cO g1.Factors λr1=>
        ah (!r1)
         (Q members1 (some 3))
         (bk (σ:=Int) 0 λx4 next3=>
          ah (decide (x4<(g1.Members.length:Int)))
           (((0:Int)<=x4/\x4<(g1.Members.length:Int))/\
           ((0:Int)<=(at' g1.Members x4)/\(at' g1.Members x4)<(p.length:Int))/\
           ((0:Int)<=0/\0<(g1.Members.length:Int))/\
           ((0:Int)<=(at' g1.Members 0)/\(at' g1.Members 0)<(p.length:Int))/\
           eq (dJ (at' p (at' g1.Members x4)) (at' p (at' g1.Members 0))) λr2=>
           ah (r2 != 0)
            (Q members1 (some 3))
            (rng (x4+1)/\
            next3 (x4+1)))
           (Q members1 none)))))
def gJ (f:GFormula) (p:List GRat) (groups:List GCauseGroup) (Q:Option Int->Prop):Prop:=
 fT f λe=>
 ah (Option.isSome e)
  (Q e)
  (ah ((p.length:Int) != f.Vars)
   (Q (some 11))
   (cO p λr=>
   ah (!r)
    (Q (some 3))
    (bk (σ:=Int×(List Int)) (0,[]) λ⟨x,members⟩ next1=>
     ah (decide (x<(groups.length:Int)))
      (((0:Int)<=x/\x<(groups.length:Int))/\
      dp (at' groups x) p members λmembers1 r1=>
      ah (Option.isSome r1)
       (Q r1)
       (rng (x+1)/\
       next1 ((x+1),members1)))
      (Q none))))
def dS (x:GRat) (Q:GRat->Prop):Prop:=
 eq (bH x.Num) λr=>
 eq (bH x.Den) λr1=>
 Q (⟨x.Neg,r,r1⟩:GRat)
def fV (g1:GCauseGroup) (p:GRat) (Q:List Gcause->GRat->Option Int->Prop):Prop:=
 ah (g1.Kind == 0)
  (((0:Int)<=0/\0<(g1.Factors.length:Int))/\
  vC (fz p (at' g1.Factors 0)) λr r1 r2=>
  Q [(⟨(⟨r1.Neg,r1.Num,r1.Den⟩:GRat),g1.Members⟩:Gcause)] r r2)
  (eW p g1.Factors λr3 r4=>
  ah (Option.isSome r4)
   (Q [] (⟨false,[],[]⟩:GRat) r4)
   ((((0:Int)<=(g1.Members.length:Int)/\(g1.Members.length:Int)<=64)/\rng (1*2^(Int.toNat (g1.Members.length:Int))))/\
   bk (σ:=Int×(List Gcause)) (0,[]) λ⟨x,out⟩ next1=>
    ah (decide (x<(1*2^(Int.toNat (g1.Members.length:Int)))))
     (bk (σ:=Int×(List Int)) (0,[]) λ⟨x1,l⟩ next2=>
      ah (decide (x1<(g1.Members.length:Int)))
       (((0:Int)<=x1/\x1<(g1.Members.length:Int))/\
       ((0:Int)<=x1/\x1<=64)/\
       ah ((bits .and .i64 (x / 2^(Int.toNat x1)) 1) == 1)
        (((l++[(at' g1.Members x1)]).length*8<=140737488355328)/\
        rng (x1+1)/\
        next2 ((x1+1),(l++[(at' g1.Members x1)])))
        (rng (x1+1)/\
        next2 ((x1+1),l)))
       (ah (decide (1<(l.length:Int)))
        (rng ((l.length:Int)-1)/\
        ((0:Int)<=((l.length:Int)-1)/\((l.length:Int)-1)<(r3.length:Int))/\
        ((out++[(⟨(⟨(at' r3 ((l.length:Int)-1)).Neg,(at' r3 ((l.length:Int)-1)).Num,(at' r3 ((l.length:Int)-1)).Den⟩:GRat),l⟩:Gcause)]).length*80<=140737488355328)/\
        rng (x+1)/\
        next1 ((x+1),(out++[(⟨(⟨(at' r3 ((l.length:Int)-1)).Neg,(at' r3 ((l.length:Int)-1)).Num,(at' r3 ((l.length:Int)-1)).Den⟩:GRat),l⟩:Gcause)])))
        (rng (x+1)/\
        next1 ((x+1),out))))
     (((0:Int)<=0/\0<(r3.length:Int))/\
     Q out (at' r3 0) none)))
def eA (f:GFormula) (p:List GRat) (groups:List GCauseGroup) (Q:GFormula->List GRat->Option Int->Prop):Prop:=
 gJ f p groups λe=>
 ah (Option.isSome e)
  (Q (⟨0,[],0⟩:GFormula) [] e)
  (bk (σ:=Int×(List GRat)) (0,[]) λ⟨x,q⟩ next1=>
   ah (decide (x<(p.length:Int)))
    (((0:Int)<=x/\x<(p.length:Int))/\
    dS (at' p x) λr=>
    ((q++[r]).length*56<=140737488355328)/\
    rng (x+1)/\
    next1 ((x+1),(q++[r])))
    (bk (σ:=Int×(List GRat)×(List (Int×List Int))×(List Int)) (0,q,([]:List (Int×List Int)),[]) λ⟨x1,q1,x2,order⟩ next2=>
     ah (decide (x1<(groups.length:Int)))
      (((0:Int)<=x1/\x1<(groups.length:Int))/\
      ((0:Int)<=0/\0<(((at' groups x1).Members).length:Int))/\
      ((0:Int)<=(at' ((at' groups x1).Members) 0)/\(at' ((at' groups x1).Members) 0)<(p.length:Int))/\
      vC (fV (at' groups x1) (at' p (at' ((at' groups x1).Members) 0))) λr1 r2 r3=>
      ah (Option.isSome r3)
       (Q (⟨0,[],0⟩:GFormula) [] r3)
       (bk (σ:=Int×(List GRat)×(List (Int×List Int))) (0,q1,x2) λ⟨x3,q2,x4⟩ next3=>
        ah (decide (x3<(r1.length:Int)))
         (((0:Int)<=x3/\x3<(r1.length:Int))/\
         bk (σ:=Int×(List (Int×List Int))) (0,x4) λ⟨x5,x6⟩ next4=>
          ah (decide (x5<(((at' r1 x3).members).length:Int)))
           (((0:Int)<=x5/\x5<(((at' r1 x3).members).length:Int))/\
           ((bS x6 (at' ((at' r1 x3).members) x5)++[(q2.length:Int)]).length*8<=140737488355328)/\
           rng (x5+1)/\
           next4 ((x5+1),(dv x6 (at' ((at' r1 x3).members) x5) (bS x6 (at' ((at' r1 x3).members) x5)++[(q2.length:Int)]))))
           (dS ((at' r1 x3).p) λr4=>
           ((q2++[r4]).length*56<=140737488355328)/\
           rng (x3+1)/\
           next3 ((x3+1),(q2++[r4]),x6)))
         (bk (σ:=Int×(List GRat)×(List Int)) (0,q2,order) λ⟨x7,q3,order1⟩ next5=>
          ah (decide (x7<(((at' groups x1).Members).length:Int)))
           (((0:Int)<=x7/\x7<(((at' groups x1).Members).length:Int))/\
           dS r2 λr5=>
           ((0:Int)<=(at' ((at' groups x1).Members) x7)/\(at' ((at' groups x1).Members) x7)<(q3.length:Int))/\
           ((order1++[(at' ((at' groups x1).Members) x7)]).length*8<=140737488355328)/\
           rng (x7+1)/\
           next5 ((x7+1),(b6 q3 (at' ((at' groups x1).Members) x7) r5),(order1++[(at' ((at' groups x1).Members) x7)])))
           (rng (x1+1)/\
           next2 ((x1+1),q3,x4,order1)))))
      (c6 (α:=Bool×(List (Int×List Int))) (λnext10=>
       ah (decide (24<(q1.length:Int)))
        (next10 (true,x2))
        (rng ((order.length:Int)+(f.Nodes.length:Int))/\
        next10 ((decide (128<((order.length:Int)+(f.Nodes.length:Int)))),x2)))
       λ⟨x8,x9⟩=>
       ah x8
        (Q (⟨0,[],0⟩:GFormula) [] (some 4))
        (lz 8 f.Vars f.Vars/\
        bk (σ:=Int×(List Int)) (0,(ek f.Vars 0)) λ⟨x10,to⟩ next6=>
         ah (decide (x10<((Int.toNat f.Vars):Int)))
          (((0:Int)<=x10/\x10<(to.length:Int))/\
          rng (x10+1)/\
          next6 ((x10+1),(b6 to x10 x10)))
          (bk (σ:=Int×(List Int)×(List GNode)) (0,to,[]) λ⟨x11,to1,x12⟩ next7=>
           ah (decide (x11<(order.length:Int)))
            (((0:Int)<=x11/\x11<(order.length:Int))/\
            rng ((q1.length:Int)+(x12.length:Int))/\
            ((0:Int)<=(at' order x11)/\(at' order x11)<(to1.length:Int))/\
            ah (decide (bo x9 (at' order x11)<x9.length))
             ((([(at' order x11)]++(bS x9 (at' order x11))).length*8<=140737488355328)/\
             ((x12++[(⟨3,0,([(at' order x11)]++(bS x9 (at' order x11)))⟩:GNode)]).length*40<=140737488355328)/\
             rng (x11+1)/\
             next7 ((x11+1),(b6 to1 (at' order x11) ((q1.length:Int)+(x12.length:Int))),(x12++[(⟨3,0,([(at' order x11)]++(bS x9 (at' order x11)))⟩:GNode)])))
             ((([(at' order x11)]++[]).length*8<=140737488355328)/\
             ((x12++[(⟨3,0,([(at' order x11)]++[])⟩:GNode)]).length*40<=140737488355328)/\
             rng (x11+1)/\
             next7 ((x11+1),(b6 to1 (at' order x11) ((q1.length:Int)+(x12.length:Int))),(x12++[(⟨3,0,([(at' order x11)]++[])⟩:GNode)]))))
            (bk (σ:=Int×(List Int)×(List GNode)) (0,to1,x12) λ⟨x13,to2,x14⟩ next8=>
             ah (decide (x13<(f.Nodes.length:Int)))
              (((0:Int)<=x13/\x13<(f.Nodes.length:Int))/\
              bk (σ:=Int×(List Int)) (0,[]) λ⟨x15,x16⟩ next9=>
               ah (decide (x15<(((at' f.Nodes x13).Args).length:Int)))
                (((0:Int)<=x15/\x15<(((at' f.Nodes x13).Args).length:Int))/\
                ((0:Int)<=(at' ((at' f.Nodes x13).Args) x15)/\(at' ((at' f.Nodes x13).Args) x15)<(to2.length:Int))/\
                ((x16++[(at' to2 (at' ((at' f.Nodes x13).Args) x15))]).length*8<=140737488355328)/\
                rng (x15+1)/\
                next9 ((x15+1),(x16++[(at' to2 (at' ((at' f.Nodes x13).Args) x15))])))
                (rng ((q1.length:Int)+(x14.length:Int))/\
                ((to2++[((q1.length:Int)+(x14.length:Int))]).length*8<=140737488355328)/\
                ((x14++[(⟨(at' f.Nodes x13).Kind,(at' f.Nodes x13).K,x16⟩:GNode)]).length*40<=140737488355328)/\
                rng (x13+1)/\
                next8 ((x13+1),(to2++[((q1.length:Int)+(x14.length:Int))]),(x14++[(⟨(at' f.Nodes x13).Kind,(at' f.Nodes x13).K,x16⟩:GNode)]))))
              (((0:Int)<=f.Top/\f.Top<(to2.length:Int))/\
              Q (⟨(q1.length:Int),x14,(at' to2 f.Top)⟩:GFormula) q1 none)))))))
end Go.Gg
namespace Go.Gg
def bQ (n:Int) (d:Int) (Q:GRat->Prop):Prop:=
 f_ n d λr _=>
 Q r
def fw (Q:Bool->Prop):Prop:=
 bQ 1 10 λr=>
 bQ 1 2 λr1=>
 fz r r1 λr2 r3 r4=>
 iG 1 λr5=>
 bQ 1 2 λr6=>
 bQ 1 3 λr7=>
 eW r5 [r6,r7] λr8 r9=>
 ah (Option.isNone r4)
  (ah (Option.isNone r9)
   (eq (bQ 1 19) λr10=>
   eq (dU r2 r10) λr11=>
   ah r11
    (eq (bQ 1 20) λr12=>
    eq (dU r3 r12) λr13=>
    ah r13
     (eq (bQ 1 2) λr14=>
     eq (bQ 1 6) λr15=>
     eq (bQ 1 6) λr16=>
     eq (dT r8 [r14,r15,r16]) λr17=>
     Q r17)
     (Q false))
    (Q false))
   (Q false))
  (Q false)
def hY (l:List GRat) (Q:Bool->Prop):Prop:=
 bk (σ:=Int) 0 λx next1=>
  ah (decide (x<(l.length:Int)))
   (((0:Int)<=x/\x<(l.length:Int))/\
   hZ (at' l x) λr=>
   ah (!r)
    (Q false)
    (rng (x+1)/\
    next1 (x+1)))
   (Q (decide ((l.length:Int)<=60)))
end Go.Gg
namespace Go.Gg
def gC (f:GFormula) (p:List GRat) (Q:Bool->Prop):Prop:=
 c6 (α:=Bool) (λnext1=>
  fw λr12=>
  ah (!r12)
   (next1 true)
   (h9 f λr13=>
   ah (!r13)
    (next1 true)
    (hY p λr14=>
    next1 (!r14))))
  λx=>
  ah x
   (fw λr=>
   Q r)
   (eA f p [] λr1 r2 r3=>
   ah (Option.isSome r3)
    (Q ((r2.length:Int) == 0))
    (gL r1 f λr4=>
    ah (!r4)
     (Q false)
     (dT r2 p λr5=>
     ah (!r5)
      (Q false)
      (ah (decide (f.Vars<2))
       (Q true)
       (ah (decide (24<=f.Vars))
        (Q true)
        (rng ((f.Nodes.length:Int)+2)/\
        ah (decide (128<((f.Nodes.length:Int)+2)))
         (Q true)
         (((0:Int)<=0/\0<(p.length:Int))/\
         ((0:Int)<=1/\1<(p.length:Int))/\
         eq (dU (at' p 0) (at' p 1)) λr6=>
         ah (!r6)
          (Q true)
          (eA f p [(⟨0,[0,1],[(⟨false,[],[]⟩:GRat)]⟩:GCauseGroup)] λr7 r8 r9=>
          ah (Option.isNone r9)
           (rng (f.Vars+1)/\
           ah (r7.Vars == (f.Vars+1))
            (rng ((p.length:Int)+1)/\
            ah ((r8.length:Int) == ((p.length:Int)+1))
             (((0:Int)<=(p.length:Int)/\(p.length:Int)<(r8.length:Int))/\
             cz (at' r8 (p.length:Int)) λr10=>
             ah (r10 == 0)
              (((0:Int)<=0/\0<=(p.length:Int)/\(p.length:Int)<=(r8.length:Int))/\
              dT (eh r8 0 (p.length:Int)) p λr11=>
              Q r11)
              (Q false))
             (Q false))
            (Q false))
           (Q false)))))))))
end Go.Gg
