/- The structures of the program and how they are encoded. Conditions: none. -/
import Derived.Test.YtaphmailhjfiaaaGc
import Derived.Test.YtaphmailhjfiaaaGf
namespace Go.Gg
structure GNode where
 Kind:Int
 K:Int
 Args:List Int
instance:Inhabited GNode:=⟨⟨0,0,[]⟩⟩
def aP (r:GNode):AV:=.agg [.int .i64 r.Kind,.int .i64 r.K,eL (AV.int .i64) r.Args]
structure GFormula where
 Vars:Int
 Nodes:List GNode
 Top:Int
instance:Inhabited GFormula:=⟨⟨0,[],0⟩⟩
def an (r:GFormula):AV:=.agg [.int .i64 r.Vars,eL aP r.Nodes,.int .i64 r.Top]
structure GRat where
 Neg:Bool
 Num:List Int
 Den:List Int
instance:Inhabited GRat:=⟨⟨false,[],[]⟩⟩
def aG (r:GRat):AV:=.agg [.bool r.Neg,eL (AV.int .u32) r.Num,eL (AV.int .u32) r.Den]
structure Gwalk where
 Formula:GFormula
 events:List Int
 seen:List Bool
instance:Inhabited Gwalk:=⟨⟨default,[],[]⟩⟩
end Go.Gg
namespace Go.Gg
def dX:ByteArray:=⟨#[0,1,2,2,3,3,3,3,4,4,4,4,4,4,4,4,5,5,5,5,5,5,5,5,5,5,5,5,5,5,5,5,6,6,6,6,6,6,6,6,6,6,6,6,6,6,6,6,6,6,6,6,6,6,6,6,6,6,6,6,6,6,6,6,7,7,7,7,7,7,7,7,7,7,7,7,7,7,7,7,7,7,7,7,7,7,7,7,7,7,7,7,7,7,7,7,7,7,7,7,7,7,7,7,7,7,7,7,7,7,7,7,7,7,7,7,7,7,7,7,7,7,7,7,7,7,7,7,8,8,8,8,8,8,8,8,8,8,8,8,8,8,8,8,8,8,8,8,8,8,8,8,8,8,8,8,8,8,8,8,8,8,8,8,8,8,8,8,8,8,8,8,8,8,8,8,8,8,8,8,8,8,8,8,8,8,8,8,8,8,8,8,8,8,8,8,8,8,8,8,8,8,8,8,8,8,8,8,8,8,8,8,8,8,8,8,8,8,8,8,8,8,8,8,8,8,8,8,8,8,8,8,8,8,8,8,8,8,8,8,8,8,8,8,8,8,8,8,8,8,8,8,8,8,8,8]⟩
def dz (x:Int) (Q:Int->Prop):Prop:=
 b7 (α:=Int×Int) (λnext2=>
  ae (decide (65536<=x))
   (next2 ((x / 2^(Int.toNat 16)),16))
   (next2 (x,0)))
  λ⟨x1,n⟩=>
  b7 (α:=Int×Int) (λnext1=>
   ae (decide (256<=x1))
    (rng (n+8)/\
    next1 ((x1 / 2^(Int.toNat 8)),(n+8)))
    (next1 (x1,n)))
   λ⟨x2,n1⟩=>
   ((0:Int)<=(IntKind.wrap .u8 x2)/\(IntKind.wrap .u8 x2)<(dX.size:Int))/\
   rng (n1+(IntKind.wrap .i64 (jR dX (Int.toNat (IntKind.wrap .u8 x2)))))/\
   fp (n1+(IntKind.wrap .i64 (jR dX (Int.toNat (IntKind.wrap .u8 x2))))) λn2=>
   Q n2
def gy (a:List Int) (Q:Int->Prop):Prop:=
 rng ((a.length:Int)-1)/\
 aU (σ:=Int) ((a.length:Int)-1) λi next1=>
  ae (decide (0<=i))
   (((0:Int)<=i/\i<(a.length:Int))/\
   ae ((at' a i) != 0)
    (rng (32*i)/\
    ((0:Int)<=i/\i<(a.length:Int))/\
    dz (at' a i) λr=>
    rng ((32*i)+r)/\
    Q ((32*i)+r))
    (rng (i-1)/\
    next1 (i-1)))
   (Q 0)
def bm (a:List Int) (Q:List Int->Prop):Prop:=
 b7 (α:=Int) (λnext1=>
  aU (σ:=Int) (a.length:Int) λn1 next2=>
   ae (decide (0<n1))
    (rng (n1-1)/\
    ((0:Int)<=(n1-1)/\(n1-1)<(a.length:Int))/\
    ae ((at' a (n1-1)) == 0)
     (rng (n1-1)/\
     next2 (n1-1))
     (next1 n1))
    (next1 n1))
  λn=>
  ae (n == 0)
   (Q [])
   (((0:Int)<=0/\0<=n/\n<=(a.length:Int))/\
   (([]++(cU a 0 n)).length*4<=140737488355328)/\
   Q ([]++(cU a 0 n)))
def cC (a:List Int) (b:List Int) (Q:Int->Prop):Prop:=
 bm a λa1=>
 bm b λb1=>
 ae ((a1.length:Int) != (b1.length:Int))
  (ae (decide ((a1.length:Int)<(b1.length:Int)))
   (Q (-1))
   (Q 1))
  (rng ((a1.length:Int)-1)/\
  aU (σ:=Int) ((a1.length:Int)-1) λi next1=>
   ae (decide (0<=i))
    (((0:Int)<=i/\i<(a1.length:Int))/\
    ((0:Int)<=i/\i<(b1.length:Int))/\
    ae (decide ((at' a1 i)<(at' b1 i)))
     (Q (-1))
     (((0:Int)<=i/\i<(a1.length:Int))/\
     ((0:Int)<=i/\i<(b1.length:Int))/\
     ae (decide ((at' b1 i)<(at' a1 i)))
      (Q 1)
      (rng (i-1)/\
      next1 (i-1))))
    (Q 0))
def gd (n:Int) (Q:List Int->Prop):Prop:=
 ae (decide (n<=0))
  (Q [])
  (bm [(IntKind.wrap .u32 n),(IntKind.wrap .u32 (n / 2^(Int.toNat 32)))] λr=>
  Q r)
def eA (a:List Int) (b:Int) (Q:List Int->Int->Prop):Prop:=
 iR 4 (a.length:Int) (a.length:Int)/\
 rng ((a.length:Int)-1)/\
 aU (σ:=Int×Int×(List Int)) (0,((a.length:Int)-1),(bG (a.length:Int) 0)) λ⟨rest,i,out⟩ next1=>
  ae (decide (0<=i))
   (((0:Int)<=i/\i<(a.length:Int))/\
   fp (bits .or .u64 (IntKind.wrap .u64 (rest*2^(Int.toNat 32))) (IntKind.wrap .u64 (at' a i))) λrest1=>
   (IntKind.wrap .u64 b)≠0/\
   ((0:Int)<=i/\i<(out.length:Int))/\
   (IntKind.wrap .u64 b)≠0/\
   rng (i-1)/\
   next1 ((Int.tmod rest1 (IntKind.wrap .u64 b)),(i-1),(set' out i (IntKind.wrap .u32 (IntKind.wrap .u64 (Int.tdiv rest1 (IntKind.wrap .u64 b)))))))
   (bm out λr=>
   Q r (IntKind.wrap .u32 rest))
def cN (x:Int) (Q:Int->Prop):Prop:=
 dz x λr=>
 rng (32-r)/\
 Q (32-r)
def cL (a:List Int) (n:Int) (Q:List Int->Prop):Prop:=
 rng ((a.length:Int)+1)/\
 iR 4 ((a.length:Int)+1) ((a.length:Int)+1)/\
 aU (σ:=Int×(List Int)) (0,(bG ((a.length:Int)+1) 0)) λ⟨x,out⟩ next1=>
  ae (decide (x<(a.length:Int)))
   (((0:Int)<=x/\x<(a.length:Int))/\
   ((0:Int)<=n/\n<=64)/\
   fp (IntKind.wrap .u64 ((IntKind.wrap .u64 (at' a x))*2^(Int.toNat n))) λy1=>
   ((0:Int)<=x/\x<(out.length:Int))/\
   ((0:Int)<=x/\x<(out.length:Int))/\
   rng (x+1)/\
   ((0:Int)<=(x+1)/\(x+1)<(out.length:Int))/\
   rng (x+1)/\
   next1 ((x+1),(set' (set' out x (bits .or .u32 (at' out x) (IntKind.wrap .u32 y1))) (x+1) (IntKind.wrap .u32 (y1 / 2^(Int.toNat 32))))))
   (Q out)
def bQ (a:List Int) (i:Int) (Q:Int->Prop):Prop:=
 ae (decide (i<(a.length:Int)))
  (((0:Int)<=i/\i<(a.length:Int))/\
  Q (IntKind.wrap .u64 (at' a i)))
  (Q 0)
def gv (u:List Int) (uo:Nat) (ul:Nat) (v:List Int) (n:Int) (Q:List Int->Bool->Prop):Prop:=
 aU (σ:=Int×Int×Int×(List Int)) (0,0,0,u) λ⟨carry,borrow,x,u1⟩ next1=>
  ae (decide (x<(ul:Int)))
   (bQ v x λr=>
   fp (IntKind.wrap .u64 (carry+(IntKind.wrap .u64 (n*r)))) λcarry1=>
   ((0:Int)<=x/\x<(ul:Int))/\
   (Int.toNat ((uo:Int)+x))<u1.length/\
   fp (IntKind.wrap .u64 ((IntKind.wrap .u64 ((IntKind.wrap .u64 (at' u1 ((uo:Int)+x)))-(IntKind.wrap .u64 (IntKind.wrap .u32 carry1))))-borrow)) λd=>
   ((0:Int)<=x/\x<(ul:Int))/\
   (Int.toNat ((uo:Int)+x))<u1.length/\
   rng (x+1)/\
   next1 ((carry1 / 2^(Int.toNat 32)),(d / 2^(Int.toNat 63)),(x+1),(set' u1 ((uo:Int)+x) (IntKind.wrap .u32 d))))
   (Q u1 (borrow == 1))
def gx (u:List Int) (uo:Nat) (ul:Nat) (v:List Int) (Q:List Int->Prop):Prop:=
 aU (σ:=Int×Int×(List Int)) (0,0,u) λ⟨carry,x,u1⟩ next1=>
  ae (decide (x<(ul:Int)))
   (((0:Int)<=x/\x<(ul:Int))/\
   (Int.toNat ((uo:Int)+x))<u1.length/\
   lO (bQ v x) λr=>
   ((0:Int)<=x/\x<(ul:Int))/\
   (Int.toNat ((uo:Int)+x))<u1.length/\
   fp ((IntKind.wrap .u64 (carry+(IntKind.wrap .u64 ((IntKind.wrap .u64 (at' u1 ((uo:Int)+x)))+r)))) / 2^(Int.toNat 32)) λcarry1=>
   rng (x+1)/\
   next1 (carry1,(x+1),(set' u1 ((uo:Int)+x) (IntKind.wrap .u32 (IntKind.wrap .u64 (carry+(IntKind.wrap .u64 ((IntKind.wrap .u64 (at' u1 ((uo:Int)+x)))+r))))))))
   (Q u1)
def eB (a:List Int) (n:Int) (Q:List Int->Prop):Prop:=
 iR 4 (a.length:Int) (a.length:Int)/\
 aU (σ:=Int×(List Int)) (0,(bG (a.length:Int) 0)) λ⟨x,out⟩ next1=>
  ae (decide (x<(a.length:Int)))
   (bQ a x λr=>
   rng (x+1)/\
   bQ a (x+1) λr1=>
   ((0:Int)<=n/\n<=64)/\
   ((0:Int)<=x/\x<(out.length:Int))/\
   rng (x+1)/\
   next1 ((x+1),(set' out x (IntKind.wrap .u32 ((bits .or .u64 r (IntKind.wrap .u64 (r1*2^(Int.toNat 32)))) / 2^(Int.toNat n))))))
   (Q out)
def eo (a:List Int) (b:List Int) (Q:List Int->List Int->Option Int->Prop):Prop:=
 bm a λa1=>
 bm b λb1=>
 ae ((b1.length:Int) == 0)
  (Q [] [] (some 8))
  (cC a1 b1 λr=>
  ae (decide (r<0))
   (Q [] a1 none)
   (ae ((b1.length:Int) == 1)
    (((0:Int)<=0/\0<(b1.length:Int))/\
    eA a1 (at' b1 0) λr1 r2=>
    gd (IntKind.wrap .i64 r2) λr3=>
    Q r1 r3 none)
    (rng ((b1.length:Int)-1)/\
    ((0:Int)<=((b1.length:Int)-1)/\((b1.length:Int)-1)<(b1.length:Int))/\
    cN (at' b1 ((b1.length:Int)-1)) λn=>
    cL b1 n λr4=>
    ((0:Int)<=0/\0<=(b1.length:Int)/\(b1.length:Int)<=(r4.length:Int))/\
    fp (cU r4 0 (b1.length:Int)) λv=>
    cL a1 n λu=>
    rng ((v.length:Int)-1)/\
    ((0:Int)<=((v.length:Int)-1)/\((v.length:Int)-1)<(v.length:Int))/\
    rng ((v.length:Int)-2)/\
    ((0:Int)<=((v.length:Int)-2)/\((v.length:Int)-2)<(v.length:Int))/\
    rng ((u.length:Int)-(v.length:Int))/\
    iR 4 ((u.length:Int)-(v.length:Int)) ((u.length:Int)-(v.length:Int))/\
    rng (((Int.toNat ((u.length:Int)-(v.length:Int))):Int)-1)/\
    fp (((Int.toNat ((u.length:Int)-(v.length:Int))):Int)-1) λj=>
    aU (σ:=Int×(List Int)×(List Int)) (j,u,(bG ((u.length:Int)-(v.length:Int)) 0)) λ⟨j1,u1,q⟩ next1=>
     ae (decide (0<=j1))
      (rng (j1+(v.length:Int))/\
      ((0:Int)<=(j1+(v.length:Int))/\(j1+(v.length:Int))<(u1.length:Int))/\
      rng (j1+(v.length:Int))/\
      rng ((j1+(v.length:Int))-1)/\
      ((0:Int)<=((j1+(v.length:Int))-1)/\((j1+(v.length:Int))-1)<(u1.length:Int))/\
      (IntKind.wrap .u64 (at' v ((v.length:Int)-1)))≠0/\
      (IntKind.wrap .u64 (at' v ((v.length:Int)-1)))≠0/\
      b7 (α:=Int) (λnext3=>
       aU (σ:=Int×Int) ((IntKind.wrap .u64 (Int.tdiv (bits .or .u64 (IntKind.wrap .u64 ((IntKind.wrap .u64 (at' u1 (j1+(v.length:Int))))*2^(Int.toNat 32))) (IntKind.wrap .u64 (at' u1 ((j1+(v.length:Int))-1)))) (IntKind.wrap .u64 (at' v ((v.length:Int)-1))))),(Int.tmod (bits .or .u64 (IntKind.wrap .u64 ((IntKind.wrap .u64 (at' u1 (j1+(v.length:Int))))*2^(Int.toNat 32))) (IntKind.wrap .u64 (at' u1 ((j1+(v.length:Int))-1)))) (IntKind.wrap .u64 (at' v ((v.length:Int)-1))))) λ⟨guess2,rest⟩ next4=>
        b7 (α:=Unit) (λnext5=>
         ae (decide (4294967296<=guess2))
          (next5 ())
          (rng (j1+(v.length:Int))/\
          rng ((j1+(v.length:Int))-2)/\
          ((0:Int)<=((j1+(v.length:Int))-2)/\((j1+(v.length:Int))-2)<(u1.length:Int))/\
          ae (decide ((bits .or .u64 (IntKind.wrap .u64 (rest*2^(Int.toNat 32))) (IntKind.wrap .u64 (at' u1 ((j1+(v.length:Int))-2))))<(IntKind.wrap .u64 (guess2*(IntKind.wrap .u64 (at' v ((v.length:Int)-2)))))))
           (next5 ())
           (next3 guess2)))
         λ_=>
         fp (IntKind.wrap .u64 (rest+(IntKind.wrap .u64 (at' v ((v.length:Int)-1))))) λrest1=>
         ae (decide (4294967296<=rest1))
          (next3 (IntKind.wrap .u64 (guess2-1)))
          (next4 ((IntKind.wrap .u64 (guess2-1)),rest1)))
       λguess=>
       b7 (α:=Int×(List Int)) (λnext2=>
        rng (j1+(v.length:Int))/\
        rng ((j1+(v.length:Int))+1)/\
        ((0:Int)<=j1/\j1<=((j1+(v.length:Int))+1)/\((j1+(v.length:Int))+1)<=(u1.length:Int))/\
        gv u1 (0+Int.toNat j1) (Int.toNat ((j1+(v.length:Int))+1)-Int.toNat j1) v guess λu3 r5=>
        u3.length=u1.length/\
        ae r5
         (rng (j1+(v.length:Int))/\
         rng ((j1+(v.length:Int))+1)/\
         ((0:Int)<=j1/\j1<=((j1+(v.length:Int))+1)/\((j1+(v.length:Int))+1)<=(u1.length:Int))/\
         gx u3 (0+Int.toNat j1) (Int.toNat ((j1+(v.length:Int))+1)-Int.toNat j1) v λu4=>
         u4.length=u3.length/\
         next2 ((IntKind.wrap .u64 (guess-1)),u4))
         (next2 (guess,u3)))
        λ⟨guess1,u2⟩=>
        ((0:Int)<=j1/\j1<(q.length:Int))/\
        rng (j1-1)/\
        next1 ((j1-1),u2,(set' q j1 (IntKind.wrap .u32 guess1))))
      (bm q λq1=>
      eB u1 n λr6=>
      bm r6 λr7=>
      Q q1 r7 none))))
def fF (a:List Int) (b:List Int) (Q:List Int->Prop):Prop:=
 bm a λa1=>
 bm b λb1=>
 aU (σ:=(List Int)×(List Int)) (a1,b1) λ⟨a2,b2⟩ next1=>
  ae (decide (0<(b2.length:Int)))
   (eo a2 b2 λ_ r1 _=>
   next1 (b2,r1))
   (Q a2)
def cB (a:List Int) (b:List Int) (Q:List Int->Prop):Prop:=
 rng ((a.length:Int)+(b.length:Int))/\
 iR 4 ((a.length:Int)+(b.length:Int)) ((a.length:Int)+(b.length:Int))/\
 aU (σ:=Int×(List Int)) (0,(bG ((a.length:Int)+(b.length:Int)) 0)) λ⟨x,out⟩ next1=>
  ae (decide (x<(a.length:Int)))
   (((0:Int)<=x/\x<(a.length:Int))/\
   aU (σ:=Int×Int×(List Int)) (0,0,out) λ⟨carry,x1,out1⟩ next2=>
    ae (decide (x1<(b.length:Int)))
     (((0:Int)<=x1/\x1<(b.length:Int))/\
     rng (x+x1)/\
     ((0:Int)<=(x+x1)/\(x+x1)<(out1.length:Int))/\
     fp (IntKind.wrap .u64 (carry+(IntKind.wrap .u64 ((IntKind.wrap .u64 ((IntKind.wrap .u64 (at' a x))*(IntKind.wrap .u64 (at' b x1))))+(IntKind.wrap .u64 (at' out1 (x+x1))))))) λcarry1=>
     rng (x+x1)/\
     ((0:Int)<=(x+x1)/\(x+x1)<(out1.length:Int))/\
     rng (x1+1)/\
     next2 ((carry1 / 2^(Int.toNat 32)),(x1+1),(set' out1 (x+x1) (IntKind.wrap .u32 carry1))))
     (rng (x+(b.length:Int))/\
     ((0:Int)<=(x+(b.length:Int))/\(x+(b.length:Int))<(out1.length:Int))/\
     rng (x+1)/\
     next1 ((x+1),(set' out1 (x+(b.length:Int)) (IntKind.wrap .u32 carry)))))
   (bm out λr=>
   Q r)
def fH (a:List Int) (b:List Int) (Q:List Int->Prop):Prop:=
 rng ((max (a.length:Int) (b.length:Int))+1)/\
 iR 4 ((max (a.length:Int) (b.length:Int))+1) ((max (a.length:Int) (b.length:Int))+1)/\
 aU (σ:=Int×Int×(List Int)) (0,0,(bG ((max (a.length:Int) (b.length:Int))+1) 0)) λ⟨carry,x,out⟩ next1=>
  ae (decide (x<((Int.toNat ((max (a.length:Int) (b.length:Int))+1)):Int)))
   (bQ a x λr=>
   bQ b x λr1=>
   fp (IntKind.wrap .u64 (carry+(IntKind.wrap .u64 (r+r1)))) λcarry1=>
   ((0:Int)<=x/\x<(out.length:Int))/\
   rng (x+1)/\
   next1 ((carry1 / 2^(Int.toNat 32)),(x+1),(set' out x (IntKind.wrap .u32 carry1))))
   (bm out λr2=>
   Q r2)
def fE (a:List Int) (b:List Int) (Q:List Int->Option Int->Prop):Prop:=
 cC a b λr=>
 ae (decide (r<0))
  (Q [] (some 3))
  (iR 4 (a.length:Int) (a.length:Int)/\
  aU (σ:=Int×Int×(List Int)) (0,0,(bG (a.length:Int) 0)) λ⟨borrow,x,out⟩ next1=>
   ae (decide (x<((Int.toNat (a.length:Int)):Int)))
    (bQ a x λr1=>
    bQ b x λr2=>
    fp (IntKind.wrap .u64 ((IntKind.wrap .u64 (r1-r2))-borrow)) λd=>
    ((0:Int)<=x/\x<(out.length:Int))/\
    rng (x+1)/\
    next1 ((d / 2^(Int.toNat 63)),(x+1),(set' out x (IntKind.wrap .u32 d))))
    (bm out λr3=>
    Q r3 none))
end Go.Gg
namespace Go.Gg
def bU (neg:Bool) (num:List Int) (den:List Int) (Q:GRat->Prop):Prop:=
 gy num λr=>
 ae (r == 0)
  (Q (⟨false,[],[]⟩:GRat))
  (fF num den λg2=>
  eo num g2 λr1 _ _=>
  eo den g2 λr4 _ _=>
  Q (⟨neg,r1,r4⟩:GRat))
def fV (n:Int) (Q:List Int->Prop):Prop:=
 ae (n == (-9223372036854775808))
  (Q [0,2147483648])
  (rng (-n)/\
  gd (max n (-n)) λr=>
  Q r)
def eW (Q:List Int->Prop):Prop:=
 Q [1]
def eh (n:Int) (Q:GRat->Prop):Prop:=
 fV n λr=>
 eW λr1=>
 bU (decide (n<0)) r r1 λr2=>
 Q r2
def dV (a:List Int) (b:List Int) (Q:Bool->Prop):Prop:=
 ae ((a.length:Int) != (b.length:Int))
  (Q false)
  (aU (σ:=Int) 0 λx next1=>
   ae (decide (x<(a.length:Int)))
    (((0:Int)<=x/\x<(a.length:Int))/\
    ((0:Int)<=x/\x<(b.length:Int))/\
    ae ((at' a x) != (at' b x))
     (Q false)
     (rng (x+1)/\
     next1 (x+1)))
    (Q true))
def d6 (a:List Int) (Q:Bool->Prop):Prop:=
 ae (decide (0<(a.length:Int)))
  (rng ((a.length:Int)-1)/\
  ((0:Int)<=((a.length:Int)-1)/\((a.length:Int)-1)<(a.length:Int))/\
  Q ((at' a ((a.length:Int)-1)) != 0))
  (Q false)
def fr (a:GRat) (Q:Bool->Prop):Prop:=
 b7 (α:=Bool) (λnext1=>
  ae ((a.Num.length:Int) == 0)
   (next1 ((a.Den.length:Int) == 0))
   (next1 false))
  λx=>
  ae x
   (Q (!a.Neg))
   (d6 a.Num λr=>
   ae r
    (d6 a.Den λr1=>
    ae r1
     (fF a.Num a.Den λr2=>
     eW λr3=>
     cC r2 r3 λr4=>
     Q (r4 == 0))
     (Q false))
    (Q false))
def bW (a:GRat) (Q:Bool->List Int->List Int->Prop):Prop:=
 b7 (α:=Bool) (λnext1=>
  fr a λr1=>
  ae (!r1)
   (next1 true)
   (next1 ((a.Num.length:Int) == 0)))
  λx=>
  ae x
   (eW λr=>
   Q false [] r)
   (Q a.Neg a.Num a.Den)
def dk (a:GRat) (Q:Int->Prop):Prop:=
 bW a λr r1 _=>
 ae ((r1.length:Int) == 0)
  (Q 0)
  (ae r
   (Q (-1))
   (Q 1))
def dK (a:GRat) (b:GRat) (Q:GRat->Option Int->Prop):Prop:=
 bW a λr r1 r2=>
 bW b λr3 r4 r5=>
 ae ((r4.length:Int) == 0)
  (Q (⟨false,[],[]⟩:GRat) (some 8))
  (cB r1 r5 λr6=>
  cB r2 r4 λr7=>
  bU (r != r3) r6 r7 λr8=>
  Q r8 none)
def cK (a:GRat) (b:GRat) (Q:GRat->Prop):Prop:=
 bW a λr r1 r2=>
 bW b λr3 r4 r5=>
 cB r1 r5 λp=>
 cB r4 r2 λq=>
 cB r2 r5 λden=>
 ae (r == r3)
  (fH p q λr6=>
  bU r r6 den λr7=>
  Q r7)
  (cC p q λr8=>
  ae (decide (0<=r8))
   (fE p q λr9 _=>
   bU r r9 den λr11=>
   Q r11)
   (fE q p λr12 _=>
   bU r3 r12 den λr14=>
   Q r14))
def gt (a:GRat) (Q:GRat->Prop):Prop:=
 bW a λr r1 r2=>
 bU (!r) r1 r2 λr3=>
 Q r3
def gr (a:GRat) (b:GRat) (Q:GRat->Prop):Prop:=
 lO (gt b) λr=>
 lO (cK a r) λr1=>
 Q r1
def dM (a:GRat) (b:GRat) (Q:Int->Prop):Prop:=
 gr a b λr=>
 dk r λr1=>
 Q r1
end Go.Gg
namespace Go.Gg
def ec (kind:Int) (n:Int) (Q:Bool->Prop):Prop:=
 ae (kind == 0)
  (Q (n == 0))
  (ae (kind == 1)
   (Q (n == 1))
   (ae (decide (1<=n))
    (Q (decide (n<=16)))
    (Q false)))
def eb (f:GFormula) (i:Int) (Q:Option Int->Prop):Prop:=
 ((0:Int)<=i/\i<(f.Nodes.length:Int))/\
 b7 (α:=Bool) (λnext5=>
  ae (decide ((at' f.Nodes i).Kind<0))
   (next5 true)
   (next5 (decide (5<(at' f.Nodes i).Kind))))
  λx=>
  ae x
   (Q (some 7))
   (ec ((at' f.Nodes i).Kind) (((at' f.Nodes i).Args).length:Int) λr=>
   ae (!r)
    (Q (some 11))
    (aU (σ:=Int) 0 λx1 next1=>
     ae (decide (x1<(((at' f.Nodes i).Args).length:Int)))
      (((0:Int)<=x1/\x1<(((at' f.Nodes i).Args).length:Int))/\
      b7 (α:=Bool) (λnext2=>
       ae (decide ((at' ((at' f.Nodes i).Args) x1)<0))
        (next2 true)
        (rng (f.Vars+i)/\
        next2 (decide ((f.Vars+i)<=(at' ((at' f.Nodes i).Args) x1)))))
       λx2=>
       ae x2
        (Q (some 10))
        (rng (x1+1)/\
        next1 (x1+1)))
      (ae ((at' f.Nodes i).Kind == 0)
       (b7 (α:=Bool) (λnext3=>
        ae ((at' f.Nodes i).K != 0)
         (next3 ((at' f.Nodes i).K != 1))
         (next3 false))
        λx3=>
        ae x3
         (Q (some 3))
         (Q none))
       (ae ((at' f.Nodes i).Kind == 4)
        (b7 (α:=Bool) (λnext4=>
         ae (decide ((at' f.Nodes i).K<1))
          (next4 true)
          (next4 (decide ((((at' f.Nodes i).Args).length:Int)<(at' f.Nodes i).K))))
         λx4=>
         ae x4
          (Q (some 3))
          (Q none))
        (ae ((at' f.Nodes i).K != 0)
         (Q (some 2))
         (Q none))))))
def f7 (f:GFormula) (arg:Int) (Q:Bool->Prop):Prop:=
 ae (decide (0<=f.Vars))
  (ae (decide (0<=arg))
   (ae (decide (arg<f.Vars))
    (Q true)
    (rng (arg-f.Vars)/\
    Q (decide ((arg-f.Vars)<(f.Nodes.length:Int)))))
   (Q false))
  (Q false)
def cW (f:GFormula) (Q:Option Int->Prop):Prop:=
 b7 (α:=Bool) (λnext2=>
  ae (decide (f.Vars<0))
   (next2 true)
   (next2 (decide (24<f.Vars))))
  λx=>
  ae x
   (Q (some 3))
   (ae (decide (128<(f.Nodes.length:Int)))
    (Q (some 4))
    (aU (σ:=Int) 0 λx1 next1=>
     ae (decide (x1<(f.Nodes.length:Int)))
      (eb f x1 λe=>
      ae (Option.isSome e)
       (Q e)
       (rng (x1+1)/\
       next1 (x1+1)))
      (f7 f f.Top λr=>
      ae (!r)
       (Q (some 10))
       (Q none))))
def ip (f:GFormula) (i:Int) (Q:Int->Prop):Prop:=
 ((0:Int)<=i/\i<(f.Nodes.length:Int))/\
 b7 (α:=Int×Int) (λnext2=>
  ae ((at' f.Nodes i).Kind == 0)
   (next2 (0,0))
   (ae ((at' f.Nodes i).Kind == 1)
    (next2 (1,1))
    (ae ((at' f.Nodes i).Kind == 2)
     (next2 (1,16))
     (ae ((at' f.Nodes i).Kind == 3)
      (next2 (1,16))
      (ae ((at' f.Nodes i).Kind == 4)
       (next2 (1,16))
       (ae ((at' f.Nodes i).Kind == 5)
        (next2 (1,16))
        (Q 7)))))))
  λ⟨least,most⟩=>
  ae (decide ((((at' f.Nodes i).Args).length:Int)<least))
   (Q 11)
   (ae (decide (most<(((at' f.Nodes i).Args).length:Int)))
    (Q 11)
    (aU (σ:=Int) 0 λx next1=>
     ae (decide (x<(((at' f.Nodes i).Args).length:Int)))
      (((0:Int)<=x/\x<(((at' f.Nodes i).Args).length:Int))/\
      ae (decide ((at' ((at' f.Nodes i).Args) x)<0))
       (Q 10)
       (rng (f.Vars+i)/\
       ae (decide ((f.Vars+i)<=(at' ((at' f.Nodes i).Args) x)))
        (Q 10)
        (rng (x+1)/\
        next1 (x+1))))
      (ae ((at' f.Nodes i).Kind == 0)
       (ae ((at' f.Nodes i).K != 0)
        (ae ((at' f.Nodes i).K != 1)
         (Q 3)
         (Q 0))
        (Q 0))
       (ae ((at' f.Nodes i).Kind == 4)
        (ae (decide ((at' f.Nodes i).K<1))
         (Q 3)
         (ae (decide ((((at' f.Nodes i).Args).length:Int)<(at' f.Nodes i).K))
          (Q 3)
          (Q 0)))
        (ae ((at' f.Nodes i).K != 0)
         (Q 2)
         (Q 0))))))
def gU (f:GFormula) (arg:Int) (Q:Bool->Prop):Prop:=
 ae (decide (0<=f.Vars))
  (ae (decide (0<=arg))
   (ae (decide (arg<f.Vars))
    (Q true)
    (rng (arg-f.Vars)/\
    Q (decide ((arg-f.Vars)<(f.Nodes.length:Int)))))
   (Q false))
  (Q false)
def fD (f:GFormula) (Q:Int->Prop):Prop:=
 ae (decide (f.Vars<0))
  (Q 3)
  (ae (decide (24<f.Vars))
   (Q 3)
   (ae (decide (128<(f.Nodes.length:Int)))
    (Q 4)
    (aU (σ:=Int) 0 λx next1=>
     ae (decide (x<(f.Nodes.length:Int)))
      (ip f x λe=>
      ae (e != 0)
       (Q e)
       (rng (x+1)/\
       next1 (x+1)))
      (gU f f.Top λr=>
      ae (!r)
       (Q 10)
       (Q 0)))))
def f0 (f:GFormula) (Q:List Bool->Prop):Prop:=
 rng (f.Vars+(f.Nodes.length:Int))/\
 iR 1 (f.Vars+(f.Nodes.length:Int)) (f.Vars+(f.Nodes.length:Int))/\
 ((0:Int)<=f.Top/\f.Top<((Int.toNat (f.Vars+(f.Nodes.length:Int))):Int))/\
 rng ((f.Nodes.length:Int)-1)/\
 aU (σ:=Int×(List Bool)) (((f.Nodes.length:Int)-1),(set' (bG (f.Vars+(f.Nodes.length:Int)) false) f.Top true)) λ⟨i,mark⟩ next1=>
  ae (decide (0<=i))
   (rng (f.Vars+i)/\
   ((0:Int)<=(f.Vars+i)/\(f.Vars+i)<(mark.length:Int))/\
   ae (at' mark (f.Vars+i))
    (((0:Int)<=i/\i<(f.Nodes.length:Int))/\
    aU (σ:=Int×(List Bool)) (0,mark) λ⟨x,mark1⟩ next2=>
     ae (decide (x<(((at' f.Nodes i).Args).length:Int)))
      (((0:Int)<=x/\x<(((at' f.Nodes i).Args).length:Int))/\
      ((0:Int)<=(at' ((at' f.Nodes i).Args) x)/\(at' ((at' f.Nodes i).Args) x)<(mark1.length:Int))/\
      rng (x+1)/\
      next2 ((x+1),(set' mark1 (at' ((at' f.Nodes i).Args) x) true)))
      (rng (i-1)/\
      next1 ((i-1),mark1)))
    (rng (i-1)/\
    next1 ((i-1),mark)))
   (Q mark)
def gB (f:GFormula) (Q:GFormula->Option Int->Prop):Prop:=
 cW f λe=>
 ae (Option.isSome e)
  (Q (⟨0,[],0⟩:GFormula) e)
  (rng (f.Vars+(f.Nodes.length:Int))/\
  iR 8 (f.Vars+(f.Nodes.length:Int)) (f.Vars+(f.Nodes.length:Int))/\
  aU (σ:=Int×(List Int)) (0,(bG (f.Vars+(f.Nodes.length:Int)) 0)) λ⟨x,to⟩ next1=>
   ae (decide (x<f.Vars))
    (((0:Int)<=x/\x<(to.length:Int))/\
    rng (x+1)/\
    next1 ((x+1),(set' to x x)))
    (lO (f0 f) λr=>
    ((0:Int)<=f.Vars/\f.Vars<=(r.length:Int)/\(r.length:Int)<=(r.length:Int))/\
    aU (σ:=Int×(List Int)×(List GNode)) (0,to,[]) λ⟨x1,to1,x2⟩ next2=>
     ae (decide (x1<((cU r f.Vars (r.length:Int)).length:Int)))
      (((0:Int)<=x1/\x1<((cU r f.Vars (r.length:Int)).length:Int))/\
      ae (!(at' (cU r f.Vars (r.length:Int)) x1))
       (rng (x1+1)/\
       next2 ((x1+1),to1,x2))
       (((0:Int)<=x1/\x1<(f.Nodes.length:Int))/\
       aU (σ:=Int×(List Int)) (0,[]) λ⟨x3,x4⟩ next3=>
        ae (decide (x3<(((at' f.Nodes x1).Args).length:Int)))
         (((0:Int)<=x3/\x3<(((at' f.Nodes x1).Args).length:Int))/\
         ((0:Int)<=(at' ((at' f.Nodes x1).Args) x3)/\(at' ((at' f.Nodes x1).Args) x3)<(to1.length:Int))/\
         ((x4++[(at' to1 (at' ((at' f.Nodes x1).Args) x3))]).length*8<=140737488355328)/\
         rng (x3+1)/\
         next3 ((x3+1),(x4++[(at' to1 (at' ((at' f.Nodes x1).Args) x3))])))
         (rng (f.Vars+x1)/\
         rng (f.Vars+(x2.length:Int))/\
         ((0:Int)<=(f.Vars+x1)/\(f.Vars+x1)<(to1.length:Int))/\
         ((x2++[(⟨(at' f.Nodes x1).Kind,(at' f.Nodes x1).K,x4⟩:GNode)]).length*40<=140737488355328)/\
         rng (x1+1)/\
         next2 ((x1+1),(set' to1 (f.Vars+x1) (f.Vars+(x2.length:Int))),(x2++[(⟨(at' f.Nodes x1).Kind,(at' f.Nodes x1).K,x4⟩:GNode)])))))
      (((0:Int)<=f.Top/\f.Top<(to1.length:Int))/\
      Q (⟨f.Vars,x2,(at' to1 f.Top)⟩:GFormula) none)))
end Go.Gg
namespace Go.Gg
def bJ:Nat->Int->Int->(List GNode)->Int->(List Int)->(List Bool)->(List Int->List Bool->Prop)->Prop
 | 0,_,_,_,_,_,_,_=>False
 | fu+1,arg,Formula,w,w1,events,seen,Q=>
  ((0:Int)<=arg/\arg<(seen.length:Int))/\
  ae (at' seen arg)
   (Q events seen)
   (((0:Int)<=arg/\arg<(seen.length:Int))/\
   ae (decide (arg<Formula))
    (((events++[arg]).length*8<=140737488355328)/\
    Q (events++[arg]) (set' seen arg true))
    (rng (arg-Formula)/\
    ((0:Int)<=(arg-Formula)/\(arg-Formula)<(w.length:Int))/\
    aU (σ:=Int×(List Int)×(List Bool)) (0,events,(set' seen arg true)) λ⟨x,x1,x2⟩ next1=>
     ae (decide (x<(((at' w (arg-Formula)).Args).length:Int)))
      (((0:Int)<=x/\x<(((at' w (arg-Formula)).Args).length:Int))/\
      bJ fu (at' ((at' w (arg-Formula)).Args) x) Formula w w1 x1 x2 λu u1=>
      u1.length=x2.length/\
      rng (x+1)/\
      next1 ((x+1),u,u1))
      (Q x1 x2)))
def dn (f:GFormula) (Q:List Int->List Bool->Prop):Prop:=
 rng (f.Vars+(f.Nodes.length:Int))/\
 iR 1 (f.Vars+(f.Nodes.length:Int)) (f.Vars+(f.Nodes.length:Int))/\
 ∃fu,bJ fu f.Top f.Vars f.Nodes f.Top ([]:List Int) (bG (f.Vars+(f.Nodes.length:Int)) false) λu u1=>
 u1.length=(bG (f.Vars+(f.Nodes.length:Int)) false).length/\
 aU (σ:=Int×(List Int)) (0,u) λ⟨x,x1⟩ next1=>
  ae (decide (x<f.Vars))
   (((0:Int)<=x/\x<(u1.length:Int))/\
   ae (!(at' u1 x))
    (((x1++[x]).length*8<=140737488355328)/\
    rng (x+1)/\
    next1 ((x+1),(x1++[x])))
    (rng (x+1)/\
    next1 ((x+1),x1)))
   (Q x1 u1)
def dp (f:GFormula) (Q:List Int->Option Int->Prop):Prop:=
 cW f λerr=>
 ae (Option.isSome err)
  (Q [] err)
  (dn f λr _=>
  Q r none)
def ey (n:Int) (Q:List Int->Prop):Prop:=
 iR 8 n n/\
 aU (σ:=Int×(List Int)) (0,(bG n 0)) λ⟨x,out⟩ next1=>
  ae (decide (x<((Int.toNat n):Int)))
   (((0:Int)<=x/\x<(out.length:Int))/\
   rng (x+1)/\
   next1 ((x+1),(set' out x x)))
   (Q out)
def br (a:Int) (b:Int) (u:List GRat) (Q:Int->Prop):Prop:=
 ((0:Int)<=b/\b<(u.length:Int))/\
 ((0:Int)<=a/\a<(u.length:Int))/\
 lO (dM (at' u b) (at' u a)) λr=>
 Q r
def bM (a:Int) (b:Int) (data:List Int) (u:List GRat) (Q:List Int->Prop):Prop:=
 rng (a+1)/\
 aU (σ:=Int×(List Int)) ((a+1),data) λ⟨i,data1⟩ next1=>
  ae (decide (i<b))
   (aU (σ:=Int×(List Int)) (i,data1) λ⟨j,data2⟩ next2=>
    ae (decide (a<j))
     (((0:Int)<=j/\j<(data2.length:Int))/\
     rng (j-1)/\
     ((0:Int)<=(j-1)/\(j-1)<(data2.length:Int))/\
     ∃r,(br (at' data2 j) (at' data2 (j-1)) u λy1=>y1=r)/\
     ae (decide (r<0))
      (rng (j-1)/\
      rng (j-1)/\
      ((0:Int)<=(j-1)/\(j-1)<(data2.length:Int))/\
      ((0:Int)<=j/\j<(data2.length:Int))/\
      ((0:Int)<=j/\j<(data2.length:Int))/\
      ((0:Int)<=(j-1)/\(j-1)<(data2.length:Int))/\
      rng (j-1)/\
      next2 ((j-1),(set' (set' data2 j (at' data2 (j-1))) (j-1) (at' data2 j))))
      (rng (i+1)/\
      next1 ((i+1),data2)))
     (rng (i+1)/\
     next1 ((i+1),data2)))
   (Q data1)
def bC (a:Int) (b:Int) (n:Int) (data:List Int) (_u:List GRat) (Q:List Int->Prop):Prop:=
 aU (σ:=Int×(List Int)) (0,data) λ⟨i,data1⟩ next1=>
  ae (decide (i<n))
   (rng (a+i)/\
   rng (b+i)/\
   rng (b+i)/\
   ((0:Int)<=(b+i)/\(b+i)<(data1.length:Int))/\
   rng (a+i)/\
   ((0:Int)<=(a+i)/\(a+i)<(data1.length:Int))/\
   ((0:Int)<=(a+i)/\(a+i)<(data1.length:Int))/\
   ((0:Int)<=(b+i)/\(b+i)<(data1.length:Int))/\
   rng (i+1)/\
   next1 ((i+1),(set' (set' data1 (a+i) (at' data1 (b+i))) (b+i) (at' data1 (a+i)))))
   (Q data1)
def de (a:Int) (m:Int) (b:Int) (data:List Int) (u:List GRat) (Q:List Int->Prop):Prop:=
 rng (m-a)/\
 rng (b-m)/\
 aU (σ:=Int×Int×(List Int)) ((m-a),(b-m),data) λ⟨i,j,data1⟩ next1=>
  ae (i != j)
   (ae (decide (j<i))
    (rng (m-i)/\
    bC (m-i) m j data1 u λdata2=>
    data2.length=data1.length/\
    rng (i-j)/\
    next1 ((i-j),j,data2))
    (rng (m-i)/\
    rng (m+j)/\
    rng ((m+j)-i)/\
    bC (m-i) ((m+j)-i) i data1 u λdata3=>
    data3.length=data1.length/\
    rng (j-i)/\
    next1 (i,(j-i),data3)))
   (rng (m-i)/\
   bC (m-i) m i data1 u λdata4=>
   data4.length=data1.length/\
   Q data4)
def aS:Nat->Int->Int->Int->(List Int)->(List GRat)->(List Int->Prop)->Prop
 | 0,_,_,_,_,_,_=>False
 | fu+1,a,m,b,data,u,Q=>
  rng (m-a)/\
  ae ((m-a) == 1)
   (aU (σ:=Int×Int) (m,b) λ⟨i,j⟩ next1=>
    ae (decide (i<j))
     (rng (i+j)/\
     fp (IntKind.wrap .i64 ((IntKind.wrap .u64 (i+j)) / 2^(Int.toNat 1))) λh1=>
     ((0:Int)<=h1/\h1<(data.length:Int))/\
     ((0:Int)<=a/\a<(data.length:Int))/\
     ∃r,(br (at' data h1) (at' data a) u λy1=>y1=r)/\
     ae (decide (r<0))
      (rng (h1+1)/\
      next1 ((h1+1),j))
      (next1 (i,h1)))
     (aU (σ:=Int×(List Int)) (a,data) λ⟨k3,data1⟩ next2=>
      rng (i-1)/\
      ae (decide (k3<(i-1)))
       (rng (k3+1)/\
       rng (k3+1)/\
       ((0:Int)<=(k3+1)/\(k3+1)<(data1.length:Int))/\
       ((0:Int)<=k3/\k3<(data1.length:Int))/\
       ((0:Int)<=k3/\k3<(data1.length:Int))/\
       ((0:Int)<=(k3+1)/\(k3+1)<(data1.length:Int))/\
       rng (k3+1)/\
       next2 ((k3+1),(set' (set' data1 k3 (at' data1 (k3+1))) (k3+1) (at' data1 k3))))
       (Q data1)))
   (rng (b-m)/\
   ae ((b-m) == 1)
    (aU (σ:=Int×Int) (a,m) λ⟨i1,j1⟩ next3=>
     ae (decide (i1<j1))
      (rng (i1+j1)/\
      fp (IntKind.wrap .i64 ((IntKind.wrap .u64 (i1+j1)) / 2^(Int.toNat 1))) λh2=>
      ((0:Int)<=m/\m<(data.length:Int))/\
      ((0:Int)<=h2/\h2<(data.length:Int))/\
      ∃r1,(br (at' data m) (at' data h2) u λy2=>y2=r1)/\
      ae (!(decide (r1<0)))
       (rng (h2+1)/\
       next3 ((h2+1),j1))
       (next3 (i1,h2)))
      (aU (σ:=Int×(List Int)) (m,data) λ⟨k4,data2⟩ next4=>
       ae (decide (i1<k4))
        (rng (k4-1)/\
        rng (k4-1)/\
        ((0:Int)<=(k4-1)/\(k4-1)<(data2.length:Int))/\
        ((0:Int)<=k4/\k4<(data2.length:Int))/\
        ((0:Int)<=k4/\k4<(data2.length:Int))/\
        ((0:Int)<=(k4-1)/\(k4-1)<(data2.length:Int))/\
        rng (k4-1)/\
        next4 ((k4-1),(set' (set' data2 k4 (at' data2 (k4-1))) (k4-1) (at' data2 k4))))
        (Q data2)))
    (rng (a+b)/\
    fp (IntKind.wrap .i64 ((IntKind.wrap .u64 (a+b)) / 2^(Int.toNat 1))) λmid=>
    rng (mid+m)/\
    b7 (α:=Int×Int) (λnext11=>
     ae (decide (mid<m))
      (rng ((mid+m)-b)/\
      next11 (((mid+m)-b),mid))
      (next11 (a,m)))
     λ⟨start,r2⟩=>
     rng ((mid+m)-1)/\
     aU (σ:=Int×Int) (start,r2) λ⟨start1,r3⟩ next5=>
      ae (decide (start1<r3))
       (rng (start1+r3)/\
       fp (IntKind.wrap .i64 ((IntKind.wrap .u64 (start1+r3)) / 2^(Int.toNat 1))) λc=>
       rng (((mid+m)-1)-c)/\
       ((0:Int)<=(((mid+m)-1)-c)/\(((mid+m)-1)-c)<(data.length:Int))/\
       ((0:Int)<=c/\c<(data.length:Int))/\
       ∃r4,(br (at' data (((mid+m)-1)-c)) (at' data c) u λy3=>y3=r4)/\
       ae (!(decide (r4<0)))
        (rng (c+1)/\
        next5 ((c+1),r3))
        (next5 (start1,c)))
       (rng ((mid+m)-start1)/\
       b7 (α:=(List Int)) (λnext9=>
        b7 (α:=Bool) (λnext10=>
         ae (decide (start1<m))
          (next10 (decide (m<((mid+m)-start1))))
          (next10 false))
         λx2=>
         ae x2
          (de start1 m ((mid+m)-start1) data u λdata7=>
          data7.length=data.length/\
          next9 data7)
          (next9 data))
        λdata3=>
        b7 (α:=(List Int)) (λnext7=>
         b7 (α:=Bool) (λnext8=>
          ae (decide (a<start1))
           (next8 (decide (start1<mid)))
           (next8 false))
          λx1=>
          ae x1
           (aS fu a start1 mid data3 u λdata6=>
           data6.length=data3.length/\
           next7 data6)
           (next7 data3))
         λdata4=>
         b7 (α:=Bool) (λnext6=>
          ae (decide (mid<((mid+m)-start1)))
           (next6 (decide (((mid+m)-start1)<b)))
           (next6 false))
          λx=>
          ae x
           (aS fu mid ((mid+m)-start1) b data4 u λdata5=>
           data5.length=data4.length/\
           Q data5)
           (Q data4))))
def ck (n:Int) (data:List Int) (u:List GRat) (Q:List Int->Prop):Prop:=
 aU (σ:=Int×Int×(List Int)) (0,20,data) λ⟨a,b,data1⟩ next1=>
  ae (decide (b<=n))
   (bM a b data1 u λdata2=>
   data2.length=data1.length/\
   rng (b+20)/\
   next1 (b,(b+20),data2))
   (bM a n data1 u λdata3=>
   data3.length=data1.length/\
   aU (σ:=Int×(List Int)) (20,data3) λ⟨blockSize,data4⟩ next2=>
    ae (decide (blockSize<n))
     (rng (2*blockSize)/\
     aU (σ:=Int×Int×(List Int)) (0,(2*blockSize),data4) λ⟨a1,b1,data5⟩ next3=>
      ae (decide (b1<=n))
       (rng (a1+blockSize)/\
       ∃fu,aS fu a1 (a1+blockSize) b1 data5 u λdata6=>
       data6.length=data5.length/\
       rng (2*blockSize)/\
       rng (b1+(2*blockSize))/\
       next3 (b1,(b1+(2*blockSize)),data6))
       (rng (a1+blockSize)/\
       ae (decide ((a1+blockSize)<n))
        (∃fu,aS fu a1 (a1+blockSize) n data5 u λdata7=>
        data7.length=data5.length/\
        rng (blockSize*2)/\
        next2 ((blockSize*2),data7))
        (rng (blockSize*2)/\
        next2 ((blockSize*2),data5))))
     (Q data4))
def bt (x:List Int) (u:List GRat) (Q:List Int->Prop):Prop:=
 ck (x.length:Int) x u λx1=>
 x1.length=x.length/\
 Q x1
def cH (f:GFormula) (Q:List Int->Option Int->Prop):Prop:=
 cW f λerr=>
 ae (Option.isSome err)
  (Q [] err)
  (rng (f.Vars+(f.Nodes.length:Int))/\
  iR 56 (f.Vars+(f.Nodes.length:Int)) (f.Vars+(f.Nodes.length:Int))/\
  lO (eh 1) λr=>
  ((0:Int)<=f.Top/\f.Top<((Int.toNat (f.Vars+(f.Nodes.length:Int))):Int))/\
  wv (σ:=(List GRat)) f.Nodes (set' (bG (f.Vars+(f.Nodes.length:Int)) (⟨false,[],[]⟩:GRat)) f.Top r) (λi x1 x next1=>
    rng (f.Vars+i)/\
    ((0:Int)<=(f.Vars+i)/\(f.Vars+i)<(x.length:Int))/\
    dk (at' x (f.Vars+i)) λr1=>
    ae (r1 == 0)
     (next1 x)
     (ae ((x1.Args.length:Int) == 0)
      (next1 x)
      (lO (eh (x1.Args.length:Int)) λr2=>
      uY (dK (at' x (f.Vars+i)) r2) λr3 r4=>
      ae (Option.isSome r4)
       (False)
       (aU (σ:=Int×(List GRat)) (0,x) λ⟨x2,x3⟩ next2=>
        ae (decide (x2<(x1.Args.length:Int)))
         (((0:Int)<=x2/\x2<(x1.Args.length:Int))/\
         ((0:Int)<=(at' x1.Args x2)/\(at' x1.Args x2)<(x3.length:Int))/\
         lO (cK (at' x3 (at' x1.Args x2)) r3) λr5=>
         ((0:Int)<=(at' x1.Args x2)/\(at' x1.Args x2)<(x3.length:Int))/\
         rng (x2+1)/\
         next2 ((x2+1),(set' x3 (at' x1.Args x2) r5)))
         (next1 x3)))))
   λx4=>
   ey f.Vars λout=>
   bt out x4 λout1=>
   out1.length=out.length/\
   Q out1 none)
def dr (o:List Int) (vars:Int) (Q:Option Int->Prop):Prop:=
 b7 (α:=Bool) (λnext3=>
  ae (decide (vars<0))
   (next3 true)
   (next3 (decide (24<vars))))
  λx=>
  ae x
   (Q (some 3))
   (ae ((o.length:Int) != vars)
    (Q (some 11))
    (iR 1 vars vars/\
    aU (σ:=Int×(List Bool)) (0,(bG vars false)) λ⟨x1,seen⟩ next1=>
     ae (decide (x1<(o.length:Int)))
      (((0:Int)<=x1/\x1<(o.length:Int))/\
      b7 (α:=Bool) (λnext2=>
       ae (decide ((at' o x1)<0))
        (next2 true)
        (next2 (decide (vars<=(at' o x1)))))
       λx2=>
       ae x2
        (Q (some 3))
        (((0:Int)<=(at' o x1)/\(at' o x1)<(seen.length:Int))/\
        ae (at' seen (at' o x1))
         (Q (some 6))
         (((0:Int)<=(at' o x1)/\(at' o x1)<(seen.length:Int))/\
         rng (x1+1)/\
         next1 ((x1+1),(set' seen (at' o x1) true)))))
      (Q none)))
def eX (o:List Int) (Q:List Int->Prop):Prop:=
 iR 8 (o.length:Int) (o.length:Int)/\
 aU (σ:=Int×(List Int)) (0,(bG (o.length:Int) 0)) λ⟨x,out⟩ next1=>
  ae (decide (x<(o.length:Int)))
   (((0:Int)<=x/\x<(o.length:Int))/\
   ((0:Int)<=(at' o x)/\(at' o x)<(out.length:Int))/\
   rng (x+1)/\
   next1 ((x+1),(set' out (at' o x) x)))
   (Q out)
def fw (a:List Int) (b:List Int) (Q:Int->Option Int->Prop):Prop:=
 aU (σ:=Int) 0 λx next1=>
  ae (decide (x<([a,b].length:Int)))
   (((0:Int)<=x/\x<([a,b].length:Int))/\
   dr (at' [a,b] x) ((at' [a,b] x).length:Int) λerr=>
   ae (Option.isSome err)
    (Q 0 err)
    (rng (x+1)/\
    next1 (x+1)))
   (ae ((a.length:Int) != (b.length:Int))
    (Q 0 (some 11))
    (eX b λat1=>
    aU (σ:=Int×Int) (0,0) λ⟨n,x1⟩ next2=>
     ae (decide (x1<(a.length:Int)))
      (((0:Int)<=x1/\x1<(a.length:Int))/\
      ((0:Int)<=0/\0<=x1/\x1<=(a.length:Int))/\
      aU (σ:=Int×Int) (n,0) λ⟨n1,x2⟩ next3=>
       ae (decide (x2<((cU a 0 x1).length:Int)))
        (((0:Int)<=x2/\x2<((cU a 0 x1).length:Int))/\
        ((0:Int)<=(at' (cU a 0 x1) x2)/\(at' (cU a 0 x1) x2)<(at1.length:Int))/\
        ((0:Int)<=(at' a x1)/\(at' a x1)<(at1.length:Int))/\
        ae (decide ((at' at1 (at' a x1))<(at' at1 (at' (cU a 0 x1) x2))))
         (rng (n1+1)/\
         rng (x2+1)/\
         next3 ((n1+1),(x2+1)))
         (rng (x2+1)/\
         next3 (n1,(x2+1))))
        (rng (x1+1)/\
        next2 (n1,(x1+1))))
      (Q n none)))
def bN (a:Int) (b:Int) (u:List Int) (Q:Int->Prop):Prop:=
 ((0:Int)<=b/\b<(u.length:Int))/\
 ((0:Int)<=a/\a<(u.length:Int))/\
 rng ((at' u b)-(at' u a))/\
 Q ((at' u b)-(at' u a))
def bL (a:Int) (b:Int) (data:List Int) (u:List Int) (Q:List Int->Prop):Prop:=
 rng (a+1)/\
 aU (σ:=Int×(List Int)) ((a+1),data) λ⟨i,data1⟩ next1=>
  ae (decide (i<b))
   (aU (σ:=Int×(List Int)) (i,data1) λ⟨j,data2⟩ next2=>
    ae (decide (a<j))
     (((0:Int)<=j/\j<(data2.length:Int))/\
     rng (j-1)/\
     ((0:Int)<=(j-1)/\(j-1)<(data2.length:Int))/\
     ∃r,(bN (at' data2 j) (at' data2 (j-1)) u λy1=>y1=r)/\
     ae (decide (r<0))
      (rng (j-1)/\
      rng (j-1)/\
      ((0:Int)<=(j-1)/\(j-1)<(data2.length:Int))/\
      ((0:Int)<=j/\j<(data2.length:Int))/\
      ((0:Int)<=j/\j<(data2.length:Int))/\
      ((0:Int)<=(j-1)/\(j-1)<(data2.length:Int))/\
      rng (j-1)/\
      next2 ((j-1),(set' (set' data2 j (at' data2 (j-1))) (j-1) (at' data2 j))))
      (rng (i+1)/\
      next1 ((i+1),data2)))
     (rng (i+1)/\
     next1 ((i+1),data2)))
   (Q data1)
def bA (a:Int) (b:Int) (n:Int) (data:List Int) (_u:List Int) (Q:List Int->Prop):Prop:=
 aU (σ:=Int×(List Int)) (0,data) λ⟨i,data1⟩ next1=>
  ae (decide (i<n))
   (rng (a+i)/\
   rng (b+i)/\
   rng (b+i)/\
   ((0:Int)<=(b+i)/\(b+i)<(data1.length:Int))/\
   rng (a+i)/\
   ((0:Int)<=(a+i)/\(a+i)<(data1.length:Int))/\
   ((0:Int)<=(a+i)/\(a+i)<(data1.length:Int))/\
   ((0:Int)<=(b+i)/\(b+i)<(data1.length:Int))/\
   rng (i+1)/\
   next1 ((i+1),(set' (set' data1 (a+i) (at' data1 (b+i))) (b+i) (at' data1 (a+i)))))
   (Q data1)
def db (a:Int) (m:Int) (b:Int) (data:List Int) (u:List Int) (Q:List Int->Prop):Prop:=
 rng (m-a)/\
 rng (b-m)/\
 aU (σ:=Int×Int×(List Int)) ((m-a),(b-m),data) λ⟨i,j,data1⟩ next1=>
  ae (i != j)
   (ae (decide (j<i))
    (rng (m-i)/\
    bA (m-i) m j data1 u λdata2=>
    data2.length=data1.length/\
    rng (i-j)/\
    next1 ((i-j),j,data2))
    (rng (m-i)/\
    rng (m+j)/\
    rng ((m+j)-i)/\
    bA (m-i) ((m+j)-i) i data1 u λdata3=>
    data3.length=data1.length/\
    rng (j-i)/\
    next1 (i,(j-i),data3)))
   (rng (m-i)/\
   bA (m-i) m i data1 u λdata4=>
   data4.length=data1.length/\
   Q data4)
def aO:Nat->Int->Int->Int->(List Int)->(List Int)->(List Int->Prop)->Prop
 | 0,_,_,_,_,_,_=>False
 | fu+1,a,m,b,data,u,Q=>
  rng (m-a)/\
  ae ((m-a) == 1)
   (aU (σ:=Int×Int) (m,b) λ⟨i,j⟩ next1=>
    ae (decide (i<j))
     (rng (i+j)/\
     fp (IntKind.wrap .i64 ((IntKind.wrap .u64 (i+j)) / 2^(Int.toNat 1))) λh1=>
     ((0:Int)<=h1/\h1<(data.length:Int))/\
     ((0:Int)<=a/\a<(data.length:Int))/\
     ∃r,(bN (at' data h1) (at' data a) u λy1=>y1=r)/\
     ae (decide (r<0))
      (rng (h1+1)/\
      next1 ((h1+1),j))
      (next1 (i,h1)))
     (aU (σ:=Int×(List Int)) (a,data) λ⟨k3,data1⟩ next2=>
      rng (i-1)/\
      ae (decide (k3<(i-1)))
       (rng (k3+1)/\
       rng (k3+1)/\
       ((0:Int)<=(k3+1)/\(k3+1)<(data1.length:Int))/\
       ((0:Int)<=k3/\k3<(data1.length:Int))/\
       ((0:Int)<=k3/\k3<(data1.length:Int))/\
       ((0:Int)<=(k3+1)/\(k3+1)<(data1.length:Int))/\
       rng (k3+1)/\
       next2 ((k3+1),(set' (set' data1 k3 (at' data1 (k3+1))) (k3+1) (at' data1 k3))))
       (Q data1)))
   (rng (b-m)/\
   ae ((b-m) == 1)
    (aU (σ:=Int×Int) (a,m) λ⟨i1,j1⟩ next3=>
     ae (decide (i1<j1))
      (rng (i1+j1)/\
      fp (IntKind.wrap .i64 ((IntKind.wrap .u64 (i1+j1)) / 2^(Int.toNat 1))) λh2=>
      ((0:Int)<=m/\m<(data.length:Int))/\
      ((0:Int)<=h2/\h2<(data.length:Int))/\
      ∃r1,(bN (at' data m) (at' data h2) u λy2=>y2=r1)/\
      ae (!(decide (r1<0)))
       (rng (h2+1)/\
       next3 ((h2+1),j1))
       (next3 (i1,h2)))
      (aU (σ:=Int×(List Int)) (m,data) λ⟨k4,data2⟩ next4=>
       ae (decide (i1<k4))
        (rng (k4-1)/\
        rng (k4-1)/\
        ((0:Int)<=(k4-1)/\(k4-1)<(data2.length:Int))/\
        ((0:Int)<=k4/\k4<(data2.length:Int))/\
        ((0:Int)<=k4/\k4<(data2.length:Int))/\
        ((0:Int)<=(k4-1)/\(k4-1)<(data2.length:Int))/\
        rng (k4-1)/\
        next4 ((k4-1),(set' (set' data2 k4 (at' data2 (k4-1))) (k4-1) (at' data2 k4))))
        (Q data2)))
    (rng (a+b)/\
    fp (IntKind.wrap .i64 ((IntKind.wrap .u64 (a+b)) / 2^(Int.toNat 1))) λmid=>
    rng (mid+m)/\
    b7 (α:=Int×Int) (λnext11=>
     ae (decide (mid<m))
      (rng ((mid+m)-b)/\
      next11 (((mid+m)-b),mid))
      (next11 (a,m)))
     λ⟨start,r2⟩=>
     rng ((mid+m)-1)/\
     aU (σ:=Int×Int) (start,r2) λ⟨start1,r3⟩ next5=>
      ae (decide (start1<r3))
       (rng (start1+r3)/\
       fp (IntKind.wrap .i64 ((IntKind.wrap .u64 (start1+r3)) / 2^(Int.toNat 1))) λc=>
       rng (((mid+m)-1)-c)/\
       ((0:Int)<=(((mid+m)-1)-c)/\(((mid+m)-1)-c)<(data.length:Int))/\
       ((0:Int)<=c/\c<(data.length:Int))/\
       ∃r4,(bN (at' data (((mid+m)-1)-c)) (at' data c) u λy3=>y3=r4)/\
       ae (!(decide (r4<0)))
        (rng (c+1)/\
        next5 ((c+1),r3))
        (next5 (start1,c)))
       (rng ((mid+m)-start1)/\
       b7 (α:=(List Int)) (λnext9=>
        b7 (α:=Bool) (λnext10=>
         ae (decide (start1<m))
          (next10 (decide (m<((mid+m)-start1))))
          (next10 false))
         λx2=>
         ae x2
          (db start1 m ((mid+m)-start1) data u λdata7=>
          data7.length=data.length/\
          next9 data7)
          (next9 data))
        λdata3=>
        b7 (α:=(List Int)) (λnext7=>
         b7 (α:=Bool) (λnext8=>
          ae (decide (a<start1))
           (next8 (decide (start1<mid)))
           (next8 false))
          λx1=>
          ae x1
           (aO fu a start1 mid data3 u λdata6=>
           data6.length=data3.length/\
           next7 data6)
           (next7 data3))
         λdata4=>
         b7 (α:=Bool) (λnext6=>
          ae (decide (mid<((mid+m)-start1)))
           (next6 (decide (((mid+m)-start1)<b)))
           (next6 false))
          λx=>
          ae x
           (aO fu mid ((mid+m)-start1) b data4 u λdata5=>
           data5.length=data4.length/\
           Q data5)
           (Q data4))))
def cb (n:Int) (data:List Int) (u:List Int) (Q:List Int->Prop):Prop:=
 aU (σ:=Int×Int×(List Int)) (0,20,data) λ⟨a,b,data1⟩ next1=>
  ae (decide (b<=n))
   (bL a b data1 u λdata2=>
   data2.length=data1.length/\
   rng (b+20)/\
   next1 (b,(b+20),data2))
   (bL a n data1 u λdata3=>
   data3.length=data1.length/\
   aU (σ:=Int×(List Int)) (20,data3) λ⟨blockSize,data4⟩ next2=>
    ae (decide (blockSize<n))
     (rng (2*blockSize)/\
     aU (σ:=Int×Int×(List Int)) (0,(2*blockSize),data4) λ⟨a1,b1,data5⟩ next3=>
      ae (decide (b1<=n))
       (rng (a1+blockSize)/\
       ∃fu,aO fu a1 (a1+blockSize) b1 data5 u λdata6=>
       data6.length=data5.length/\
       rng (2*blockSize)/\
       rng (b1+(2*blockSize))/\
       next3 (b1,(b1+(2*blockSize)),data6))
       (rng (a1+blockSize)/\
       ae (decide ((a1+blockSize)<n))
        (∃fu,aO fu a1 (a1+blockSize) n data5 u λdata7=>
        data7.length=data5.length/\
        rng (blockSize*2)/\
        next2 ((blockSize*2),data7))
        (rng (blockSize*2)/\
        next2 ((blockSize*2),data5))))
     (Q data4))
def bo (x:List Int) (u:List Int) (Q:List Int->Prop):Prop:=
 cb (x.length:Int) x u λx1=>
 x1.length=x.length/\
 Q x1
def eY (f:GFormula) (Q:List Int->Option Int->Prop):Prop:=
 cW f λerr=>
 ae (Option.isSome err)
  (Q [] err)
  (dn f λr r1=>
  rng (f.Vars+(f.Nodes.length:Int))/\
  iR 8 (f.Vars+(f.Nodes.length:Int)) (f.Vars+(f.Nodes.length:Int))/\
  ((0:Int)<=f.Top/\f.Top<((Int.toNat (f.Vars+(f.Nodes.length:Int))):Int))/\
  rng ((at' (bG (f.Vars+(f.Nodes.length:Int)) 0) f.Top)+1)/\
  ((0:Int)<=f.Top/\f.Top<((Int.toNat (f.Vars+(f.Nodes.length:Int))):Int))/\
  aU (σ:=Int×(List Int)) (0,(set' (bG (f.Vars+(f.Nodes.length:Int)) 0) f.Top ((at' (bG (f.Vars+(f.Nodes.length:Int)) 0) f.Top)+1))) λ⟨x,x1⟩ next1=>
   ae (decide (x<(f.Nodes.length:Int)))
    (((0:Int)<=x/\x<(f.Nodes.length:Int))/\
    rng (f.Vars+x)/\
    ((0:Int)<=(f.Vars+x)/\(f.Vars+x)<(r1.length:Int))/\
    ae (!(at' r1 (f.Vars+x)))
     (rng (x+1)/\
     next1 ((x+1),x1))
     (aU (σ:=Int×(List Int)) (0,x1) λ⟨x2,x3⟩ next2=>
      ae (decide (x2<(((at' f.Nodes x).Args).length:Int)))
       (((0:Int)<=x2/\x2<(((at' f.Nodes x).Args).length:Int))/\
       ((0:Int)<=(at' ((at' f.Nodes x).Args) x2)/\(at' ((at' f.Nodes x).Args) x2)<(x3.length:Int))/\
       rng ((at' x3 (at' ((at' f.Nodes x).Args) x2))+1)/\
       ((0:Int)<=(at' ((at' f.Nodes x).Args) x2)/\(at' ((at' f.Nodes x).Args) x2)<(x3.length:Int))/\
       rng (x2+1)/\
       next2 ((x2+1),(set' x3 (at' ((at' f.Nodes x).Args) x2) ((at' x3 (at' ((at' f.Nodes x).Args) x2))+1))))
       (rng (x+1)/\
       next1 ((x+1),x3))))
    (bo r x1 λout=>
    out.length=r.length/\
    Q out none))
end Go.Gg
namespace Go.Gg
end Go.Gg
namespace Go.Gg
def eD (Q:GFormula->Prop):Prop:=
 Q (⟨3,[(⟨3,0,[0,2,1]⟩:GNode),(⟨2,0,[2,3]⟩:GNode)],4⟩:GFormula)
def er (Q:Bool->Prop):Prop:=
 eD λr=>
 dp r λr1 r2=>
 eD λr3=>
 cH r3 λr4 r5=>
 fw [0,1,2] [2,1,0] λr6 r7=>
 ae (Option.isNone r2)
  (ae (Option.isNone r5)
   (ae (Option.isNone r7)
    (ae (r6 == 3)
     (dV r1 [2,0,1] λr8=>
     ae r8
      (dV r4 [2,0,1] λr9=>
      Q r9)
      (Q false))
     (Q false))
    (Q false))
   (Q false))
  (Q false)
end Go.Gg
namespace Go.Gg
def fP (f:GFormula) (Q:Bool->Prop):Prop:=
 b7 (α:=Bool) (λnext1=>
  er λr22=>
  ae (!r22)
   (next1 true)
   (fD f λr23=>
   ae (r23 != 0)
    (next1 true)
    (next1 (decide (40<(f.Nodes.length:Int))))))
  λx=>
  ae x
   (er λr=>
   Q r)
   (gB f λr1 r2=>
   ae (Option.isSome r2)
    (Q false)
    (fD r1 λr3=>
    ae (r3 != 0)
     (Q false)
     (ae (r1.Vars != f.Vars)
      (Q false)
      (dp f λr4 r5=>
      cH f λr6 r7=>
      eY f λr8 r9=>
      dp r1 λr10 r11=>
      cH r1 λr12 r13=>
      eY r1 λr14 r15=>
      ae (Option.isSome r5)
       (Q false)
       (ae (Option.isSome r7)
        (Q false)
        (ae (Option.isSome r9)
         (Q false)
         (ae (Option.isSome r11)
          (Q false)
          (ae (Option.isSome r13)
           (Q false)
           (ae (Option.isSome r15)
            (Q false)
            (dr r4 f.Vars λr16=>
            ae (Option.isSome r16)
             (Q false)
             (dr r6 f.Vars λr17=>
             ae (Option.isSome r17)
              (Q false)
              (dr r8 f.Vars λr18=>
              ae (Option.isSome r18)
               (Q false)
               (dV r4 r10 λr19=>
               ae r19
                (dV r6 r12 λr20=>
                ae r20
                 (dV r8 r14 λr21=>
                 Q r21)
                 (Q false))
                (Q false))))))))))))))
end Go.Gg
