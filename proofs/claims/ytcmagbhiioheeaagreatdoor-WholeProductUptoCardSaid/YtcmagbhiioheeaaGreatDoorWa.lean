/- The structures of the program and how they are encoded. Conditions: none. -/
import Derived.Test.YtcmagbhiioheeaaGreatDoorGc
import Derived.Test.YtcmagbhiioheeaaGreatDoorGi
import Derived.Test.YtcmagbhiioheeaaGreatDoorGd
open Int (tdiv tmod toNat)
open Go.IntKind (wrap)
open Option (getD isNone isSome)
namespace Go.Gg
structure GNode where
 F:Int
 K:Int
 M:List Int
instance:Inhabited GNode:=⟨⟨0,0,[]⟩⟩
def cz (r:GNode):AV:=.agg [.int .i64 r.F,.int .i64 r.K,eL (AV.int .i64) r.M]
structure GFormula where
 A:Int
 N:List GNode
 Z:Int
instance:Inhabited GFormula:=⟨⟨0,[],0⟩⟩
def aI (r:GFormula):AV:=.agg [.int .i64 r.A,eL cz r.N,.int .i64 r.Z]
structure GRat where
 U:Bool
 L:List Int
 W:List Int
instance:Inhabited GRat:=⟨⟨false,[],[]⟩⟩
def af (r:GRat):AV:=.agg [.bool r.U,eL (AV.int .u32) r.L,eL (AV.int .u32) r.W]
structure GMove where
 D:Int
 To:Int
 X:GRat
instance:Inhabited GMove:=⟨⟨0,0,default⟩⟩
def cX (r:GMove):AV:=.agg [.int .i64 r.D,.int .i64 r.To,.bool r.X.U,eL (AV.int .u32) r.X.L,eL (AV.int .u32) r.X.W]
structure GChain where
 H:Int
 O:Int
 V:List GMove
 B:List Bool
instance:Inhabited GChain:=⟨⟨0,0,[],[]⟩⟩
def bq (r:GChain):AV:=.agg [.int .i64 r.H,.int .i64 r.O,eL cX r.V,eL AV.bool r.B]
structure GDNode where
 Y:Int
 E:Int
 I:Int
instance:Inhabited GDNode:=⟨⟨0,0,0⟩⟩
def aG (r:GDNode):AV:=.agg [.int .i64 r.Y,.int .i64 r.E,.int .i64 r.I]
structure GDiagram where
 T:List Int
 N:List GDNode
 G:Int
instance:Inhabited GDiagram:=⟨⟨[],[],0⟩⟩
def lE (r:GDiagram):AV:=.agg [eL (AV.int .i64) r.T,eL aG r.N,.int .i64 r.G]
structure Gwalk where
 J:GFormula
 events:List Int
 seen:List Bool
instance:Inhabited Gwalk:=⟨⟨default,[],[]⟩⟩
def Pz (r:Gwalk):AV:=.agg [.int .i64 r.J.A,eL cz r.J.N,.int .i64 r.J.Z,eL (AV.int .i64) r.events,eL AV.bool r.seen]
def gE:ByteArray:=⟨#[0,1,2,2,3,3,3,3,4,4,4,4,4,4,4,4,5,5,5,5,5,5,5,5,5,5,5,5,5,5,5,5,6,6,6,6,6,6,6,6,6,6,6,6,6,6,6,6,6,6,6,6,6,6,6,6,6,6,6,6,6,6,6,6,7,7,7,7,7,7,7,7,7,7,7,7,7,7,7,7,7,7,7,7,7,7,7,7,7,7,7,7,7,7,7,7,7,7,7,7,7,7,7,7,7,7,7,7,7,7,7,7,7,7,7,7,7,7,7,7,7,7,7,7,7,7,7,7,8,8,8,8,8,8,8,8,8,8,8,8,8,8,8,8,8,8,8,8,8,8,8,8,8,8,8,8,8,8,8,8,8,8,8,8,8,8,8,8,8,8,8,8,8,8,8,8,8,8,8,8,8,8,8,8,8,8,8,8,8,8,8,8,8,8,8,8,8,8,8,8,8,8,8,8,8,8,8,8,8,8,8,8,8,8,8,8,8,8,8,8,8,8,8,8,8,8,8,8,8,8,8,8,8,8,8,8,8,8,8,8,8,8,8,8,8,8,8,8,8,8,8,8,8,8,8,8]⟩
def bz (a:List Int) (Q:List Int->Prop):Prop:=
 bM (α:=Int) (λnext1=>
  aH (σ:=Int) (a.length:Int) λn1 next2=>
   ac (decide (0<n1))
    (rng (n1-1)/\
    ((0:Int)<=(n1-1)/\(n1-1)<(a.length:Int))/\
    ac ((at' a (n1-1)) == 0)
     (rng (n1-1)/\
     next2 (n1-1))
     (next1 n1))
    (next1 n1))
  λn=>
  ac (n == 0)
   (Q [])
   (((0:Int)<=0/\0<=n/\n<=(a.length:Int))/\
   ((([]:List Int)++(fe a 0 n)).length*4<=140737488355328)/\
   Q (([]:List Int)++(fe a 0 n)))
def du (a:List Int) (b:List Int) (Q:Int->Prop):Prop:=
 bz a λa1=>
 bz b λb1=>
 ac ((a1.length:Int) != (b1.length:Int))
  (ac (decide ((a1.length:Int)<(b1.length:Int)))
   (Q (-1))
   (Q 1))
  (rng ((a1.length:Int)-1)/\
  aH (σ:=Int) ((a1.length:Int)-1) λi next1=>
   ac (decide (0<=i))
    (((0:Int)<=i/\i<(a1.length:Int))/\
    ((0:Int)<=i/\i<(b1.length:Int))/\
    ac (decide ((at' a1 i)<(at' b1 i)))
     (Q (-1))
     (((0:Int)<=i/\i<(a1.length:Int))/\
     ((0:Int)<=i/\i<(b1.length:Int))/\
     ac (decide ((at' b1 i)<(at' a1 i)))
      (Q 1)
      (rng (i-1)/\
      next1 (i-1))))
    (Q 0))
def gZ (a:List Int) (b:Int) (Q:List Int->Int->Prop):Prop:=
 fS 4 (a.length:Int) (a.length:Int)/\
 rng ((a.length:Int)-1)/\
 aH (σ:=Int×Int×(List Int)) (0,((a.length:Int)-1),(aQ (a.length:Int) 0)) λ⟨rest,i,out⟩ next1=>
  ac (decide (0<=i))
   (((0:Int)<=i/\i<(a.length:Int))/\
   iS (bits .or .u64 (wrap .u64 (rest*2^(toNat 32))) (wrap .u64 (at' a i))) λrest1=>
   (wrap .u64 b)≠0/\
   ((0:Int)<=i/\i<(out.length:Int))/\
   (wrap .u64 b)≠0/\
   rng (i-1)/\
   next1 ((tmod rest1 (wrap .u64 b)),(i-1),(aN out i (wrap .u32 (wrap .u64 (tdiv rest1 (wrap .u64 b)))))))
   (bz out λr=>
   Q r (wrap .u32 rest))
def kA (n:Int) (Q:List Int->Prop):Prop:=
 ac (decide (n<=0))
  (Q [])
  (bz [(wrap .u32 n),(wrap .u32 (n / 2^(toNat 32)))] λr=>
  Q r)
def fX (x:Int) (Q:Int->Prop):Prop:=
 bM (α:=Int×Int) (λnext2=>
  ac (decide (65536<=x))
   (next2 ((x / 2^(toNat 16)),16))
   (next2 (x,0)))
  λ⟨x1,n⟩=>
  bM (α:=Int×Int) (λnext1=>
   ac (decide (256<=x1))
    (rng (n+8)/\
    next1 ((x1 / 2^(toNat 8)),(n+8)))
    (next1 (x1,n)))
   λ⟨x2,n1⟩=>
   ((0:Int)<=(wrap .u8 x2)/\(wrap .u8 x2)<(gE.size:Int))/\
   rng (n1+(wrap .i64 (qv gE (toNat (wrap .u8 x2)))))/\
   iS (n1+(wrap .i64 (qv gE (toNat (wrap .u8 x2))))) λn2=>
   Q n2
def eH (x:Int) (Q:Int->Prop):Prop:=
 fX x λr=>
 rng (32-r)/\
 Q (32-r)
def eF (a:List Int) (n:Int) (Q:List Int->Prop):Prop:=
 rng ((a.length:Int)+1)/\
 fS 4 ((a.length:Int)+1) ((a.length:Int)+1)/\
 aH (σ:=Int×(List Int)) (0,(aQ ((a.length:Int)+1) 0)) λ⟨x,out⟩ next1=>
  ac (decide (x<(a.length:Int)))
   (((0:Int)<=x/\x<(a.length:Int))/\
   ((0:Int)<=n/\n<=64)/\
   iS (wrap .u64 ((wrap .u64 (at' a x))*2^(toNat n))) λy1=>
   ((0:Int)<=x/\x<(out.length:Int))/\
   ((0:Int)<=x/\x<(out.length:Int))/\
   rng (x+1)/\
   ((0:Int)<=(x+1)/\(x+1)<(out.length:Int))/\
   rng (x+1)/\
   next1 ((x+1),(aN (aN out x (bits .or .u32 (at' out x) (wrap .u32 y1))) (x+1) (wrap .u32 (y1 / 2^(toNat 32))))))
   (Q out)
def cB (a:List Int) (i:Int) (Q:Int->Prop):Prop:=
 ac (decide (i<(a.length:Int)))
  (((0:Int)<=i/\i<(a.length:Int))/\
  Q (wrap .u64 (at' a i)))
  (Q 0)
def lq (u:List Int) (uo:Nat) (ul:Nat) (v:List Int) (n:Int) (Q:List Int->Bool->Prop):Prop:=
 aH (σ:=Int×Int×Int×(List Int)) (0,0,0,u) λ⟨carry,borrow,x,u1⟩ next1=>
  ac (decide (x<(ul:Int)))
   (cB v x λr=>
   iS (wrap .u64 (carry+(wrap .u64 (n*r)))) λcarry1=>
   ((0:Int)<=x/\x<(ul:Int))/\
   (toNat ((uo:Int)+x))<u1.length/\
   iS (wrap .u64 ((wrap .u64 ((wrap .u64 (at' u1 ((uo:Int)+x)))-(wrap .u64 (wrap .u32 carry1))))-borrow)) λd=>
   ((0:Int)<=x/\x<(ul:Int))/\
   (toNat ((uo:Int)+x))<u1.length/\
   rng (x+1)/\
   next1 ((carry1 / 2^(toNat 32)),(d / 2^(toNat 63)),(x+1),(aN u1 ((uo:Int)+x) (wrap .u32 d))))
   (Q u1 (borrow == 1))
def lr (u:List Int) (uo:Nat) (ul:Nat) (v:List Int) (Q:List Int->Prop):Prop:=
 aH (σ:=Int×Int×(List Int)) (0,0,u) λ⟨carry,x,u1⟩ next1=>
  ac (decide (x<(ul:Int)))
   (((0:Int)<=x/\x<(ul:Int))/\
   (toNat ((uo:Int)+x))<u1.length/\
   fk (cB v x) λr=>
   ((0:Int)<=x/\x<(ul:Int))/\
   (toNat ((uo:Int)+x))<u1.length/\
   iS ((wrap .u64 (carry+(wrap .u64 ((wrap .u64 (at' u1 ((uo:Int)+x)))+r)))) / 2^(toNat 32)) λcarry1=>
   rng (x+1)/\
   next1 (carry1,(x+1),(aN u1 ((uo:Int)+x) (wrap .u32 (wrap .u64 (carry+(wrap .u64 ((wrap .u64 (at' u1 ((uo:Int)+x)))+r))))))))
   (Q u1)
def g_ (a:List Int) (n:Int) (Q:List Int->Prop):Prop:=
 fS 4 (a.length:Int) (a.length:Int)/\
 aH (σ:=Int×(List Int)) (0,(aQ (a.length:Int) 0)) λ⟨x,out⟩ next1=>
  ac (decide (x<(a.length:Int)))
   (cB a x λr=>
   rng (x+1)/\
   cB a (x+1) λr1=>
   ((0:Int)<=n/\n<=64)/\
   ((0:Int)<=x/\x<(out.length:Int))/\
   rng (x+1)/\
   next1 ((x+1),(aN out x (wrap .u32 ((bits .or .u64 r (wrap .u64 (r1*2^(toNat 32)))) / 2^(toNat n))))))
   (Q out)
def gV (a:List Int) (b:List Int) (Q:List Int->List Int->Option Int->Prop):Prop:=
 bz a λa1=>
 bz b λb1=>
 ac ((b1.length:Int) == 0)
  (Q [] [] (some 8))
  (du a1 b1 λr=>
  ac (decide (r<0))
   (Q [] a1 none)
   (ac ((b1.length:Int) == 1)
    (((0:Int)<=0/\0<(b1.length:Int))/\
    gZ a1 (at' b1 0) λr1 r2=>
    kA (wrap .i64 r2) λr3=>
    Q r1 r3 none)
    (rng ((b1.length:Int)-1)/\
    ((0:Int)<=((b1.length:Int)-1)/\((b1.length:Int)-1)<(b1.length:Int))/\
    eH (at' b1 ((b1.length:Int)-1)) λn=>
    eF b1 n λr4=>
    ((0:Int)<=0/\0<=(b1.length:Int)/\(b1.length:Int)<=(r4.length:Int))/\
    iS (fe r4 0 (b1.length:Int)) λv=>
    eF a1 n λu=>
    rng ((v.length:Int)-1)/\
    ((0:Int)<=((v.length:Int)-1)/\((v.length:Int)-1)<(v.length:Int))/\
    rng ((v.length:Int)-2)/\
    ((0:Int)<=((v.length:Int)-2)/\((v.length:Int)-2)<(v.length:Int))/\
    rng ((u.length:Int)-(v.length:Int))/\
    fS 4 ((u.length:Int)-(v.length:Int)) ((u.length:Int)-(v.length:Int))/\
    rng (((toNat ((u.length:Int)-(v.length:Int))):Int)-1)/\
    iS (((toNat ((u.length:Int)-(v.length:Int))):Int)-1) λj=>
    aH (σ:=Int×(List Int)×(List Int)) (j,u,(aQ ((u.length:Int)-(v.length:Int)) 0)) λ⟨j1,u1,q⟩ next1=>
     ac (decide (0<=j1))
      (rng (j1+(v.length:Int))/\
      ((0:Int)<=(j1+(v.length:Int))/\(j1+(v.length:Int))<(u1.length:Int))/\
      rng (j1+(v.length:Int))/\
      rng ((j1+(v.length:Int))-1)/\
      ((0:Int)<=((j1+(v.length:Int))-1)/\((j1+(v.length:Int))-1)<(u1.length:Int))/\
      (wrap .u64 (at' v ((v.length:Int)-1)))≠0/\
      (wrap .u64 (at' v ((v.length:Int)-1)))≠0/\
      bM (α:=Int) (λnext3=>
       aH (σ:=Int×Int) ((wrap .u64 (tdiv (bits .or .u64 (wrap .u64 ((wrap .u64 (at' u1 (j1+(v.length:Int))))*2^(toNat 32))) (wrap .u64 (at' u1 ((j1+(v.length:Int))-1)))) (wrap .u64 (at' v ((v.length:Int)-1))))),(tmod (bits .or .u64 (wrap .u64 ((wrap .u64 (at' u1 (j1+(v.length:Int))))*2^(toNat 32))) (wrap .u64 (at' u1 ((j1+(v.length:Int))-1)))) (wrap .u64 (at' v ((v.length:Int)-1))))) λ⟨guess2,rest⟩ next4=>
        bM (α:=Unit) (λnext5=>
         ac (decide (4294967296<=guess2))
          (next5 ())
          (rng (j1+(v.length:Int))/\
          rng ((j1+(v.length:Int))-2)/\
          ((0:Int)<=((j1+(v.length:Int))-2)/\((j1+(v.length:Int))-2)<(u1.length:Int))/\
          ac (decide ((bits .or .u64 (wrap .u64 (rest*2^(toNat 32))) (wrap .u64 (at' u1 ((j1+(v.length:Int))-2))))<(wrap .u64 (guess2*(wrap .u64 (at' v ((v.length:Int)-2)))))))
           (next5 ())
           (next3 guess2)))
         λ_=>
         iS (wrap .u64 (rest+(wrap .u64 (at' v ((v.length:Int)-1))))) λrest1=>
         ac (decide (4294967296<=rest1))
          (next3 (wrap .u64 (guess2-1)))
          (next4 ((wrap .u64 (guess2-1)),rest1)))
       λguess=>
       bM (α:=Int×(List Int)) (λnext2=>
        rng (j1+(v.length:Int))/\
        rng ((j1+(v.length:Int))+1)/\
        ((0:Int)<=j1/\j1<=((j1+(v.length:Int))+1)/\((j1+(v.length:Int))+1)<=(u1.length:Int))/\
        lq u1 (0+toNat j1) (toNat ((j1+(v.length:Int))+1)-toNat j1) v guess λu3 r5=>
        u3.length=u1.length/\
        ac r5
         (rng (j1+(v.length:Int))/\
         rng ((j1+(v.length:Int))+1)/\
         ((0:Int)<=j1/\j1<=((j1+(v.length:Int))+1)/\((j1+(v.length:Int))+1)<=(u1.length:Int))/\
         lr u3 (0+toNat j1) (toNat ((j1+(v.length:Int))+1)-toNat j1) v λu4=>
         u4.length=u3.length/\
         next2 ((wrap .u64 (guess-1)),u4))
         (next2 (guess,u3)))
        λ⟨guess1,u2⟩=>
        ((0:Int)<=j1/\j1<(q.length:Int))/\
        rng (j1-1)/\
        next1 ((j1-1),u2,(aN q j1 (wrap .u32 guess1))))
      (bz q λq1=>
      g_ u1 n λr6=>
      bz r6 λr7=>
      Q q1 r7 none))))
def jx (a:List Int) (b:List Int) (Q:List Int->Prop):Prop:=
 bz a λa1=>
 bz b λb1=>
 aH (σ:=(List Int)×(List Int)) (a1,b1) λ⟨a2,b2⟩ next1=>
  ac (decide (0<(b2.length:Int)))
   (gV a2 b2 λ_ r1 _=>
   next1 (b2,r1))
   (Q a2)
def lw (a:List Int) (Q:Int->Prop):Prop:=
 rng ((a.length:Int)-1)/\
 aH (σ:=Int) ((a.length:Int)-1) λi next1=>
  ac (decide (0<=i))
   (((0:Int)<=i/\i<(a.length:Int))/\
   ac ((at' a i) != 0)
    (rng (32*i)/\
    ((0:Int)<=i/\i<(a.length:Int))/\
    fX (at' a i) λr=>
    rng ((32*i)+r)/\
    Q ((32*i)+r))
    (rng (i-1)/\
    next1 (i-1)))
   (Q 0)
def cO (a:List Int) (b:List Int) (Q:List Int->Prop):Prop:=
 rng ((a.length:Int)+(b.length:Int))/\
 fS 4 ((a.length:Int)+(b.length:Int)) ((a.length:Int)+(b.length:Int))/\
 aH (σ:=Int×(List Int)) (0,(aQ ((a.length:Int)+(b.length:Int)) 0)) λ⟨x,out⟩ next1=>
  ac (decide (x<(a.length:Int)))
   (((0:Int)<=x/\x<(a.length:Int))/\
   aH (σ:=Int×Int×(List Int)) (0,0,out) λ⟨carry,x1,out1⟩ next2=>
    ac (decide (x1<(b.length:Int)))
     (((0:Int)<=x1/\x1<(b.length:Int))/\
     rng (x+x1)/\
     ((0:Int)<=(x+x1)/\(x+x1)<(out1.length:Int))/\
     iS (wrap .u64 (carry+(wrap .u64 ((wrap .u64 ((wrap .u64 (at' a x))*(wrap .u64 (at' b x1))))+(wrap .u64 (at' out1 (x+x1))))))) λcarry1=>
     rng (x+x1)/\
     ((0:Int)<=(x+x1)/\(x+x1)<(out1.length:Int))/\
     rng (x1+1)/\
     next2 ((carry1 / 2^(toNat 32)),(x1+1),(aN out1 (x+x1) (wrap .u32 carry1))))
     (rng (x+(b.length:Int))/\
     ((0:Int)<=(x+(b.length:Int))/\(x+(b.length:Int))<(out1.length:Int))/\
     rng (x+1)/\
     next1 ((x+1),(aN out1 (x+(b.length:Int)) (wrap .u32 carry)))))
   (bz out λr=>
   Q r)
def jy (a:List Int) (b:List Int) (Q:List Int->Prop):Prop:=
 rng ((max (a.length:Int) (b.length:Int))+1)/\
 fS 4 ((max (a.length:Int) (b.length:Int))+1) ((max (a.length:Int) (b.length:Int))+1)/\
 aH (σ:=Int×Int×(List Int)) (0,0,(aQ ((max (a.length:Int) (b.length:Int))+1) 0)) λ⟨carry,x,out⟩ next1=>
  ac (decide (x<((toNat ((max (a.length:Int) (b.length:Int))+1)):Int)))
   (cB a x λr=>
   cB b x λr1=>
   iS (wrap .u64 (carry+(wrap .u64 (r+r1)))) λcarry1=>
   ((0:Int)<=x/\x<(out.length:Int))/\
   rng (x+1)/\
   next1 ((carry1 / 2^(toNat 32)),(x+1),(aN out x (wrap .u32 carry1))))
   (bz out λr2=>
   Q r2)
def jw (a:List Int) (b:List Int) (Q:List Int->Option Int->Prop):Prop:=
 du a b λr=>
 ac (decide (r<0))
  (Q [] (some 3))
  (fS 4 (a.length:Int) (a.length:Int)/\
  aH (σ:=Int×Int×(List Int)) (0,0,(aQ (a.length:Int) 0)) λ⟨borrow,x,out⟩ next1=>
   ac (decide (x<((toNat (a.length:Int)):Int)))
    (cB a x λr1=>
    cB b x λr2=>
    iS (wrap .u64 ((wrap .u64 (r1-r2))-borrow)) λd=>
    ((0:Int)<=x/\x<(out.length:Int))/\
    rng (x+1)/\
    next1 ((d / 2^(toNat 63)),(x+1),(aN out x (wrap .u32 d))))
    (bz out λr3=>
    Q r3 none))
def iA (a:List Int) (Q:Int->Prop):Prop:=
 aH (σ:=Int×Int) (0,0) λ⟨n,x⟩ next1=>
  ac (decide (x<(a.length:Int)))
   (((0:Int)<=x/\x<(a.length:Int))/\
   aH (σ:=Int×Int) (n,0) λ⟨n1,x1⟩ next2=>
    ac (decide (x1<32))
     (((0:Int)<=x1/\x1<=32)/\
     ac ((bits .and .u32 ((at' a x) / 2^(toNat x1)) 1) == 1)
      (rng (32*x)/\
      rng ((32*x)+x1)/\
      rng (((32*x)+x1)+1)/\
      rng (x1+1)/\
      next2 ((((32*x)+x1)+1),(x1+1)))
      (rng (x1+1)/\
      next2 (n1,(x1+1))))
     (rng (x+1)/\
     next1 (n1,(x+1))))
   (Q n)
def cQ (a:List Int) (Q:List Int->Prop):Prop:=
 bM (α:=Int) (λnext1=>
  aH (σ:=Int) (a.length:Int) λn1 next2=>
   ac (decide (0<n1))
    (rng (n1-1)/\
    ((0:Int)<=(n1-1)/\(n1-1)<(a.length:Int))/\
    ac ((at' a (n1-1)) == 0)
     (rng (n1-1)/\
     next2 (n1-1))
     (next1 n1))
    (next1 n1))
  λn=>
  ((0:Int)<=0/\0<=n/\n<=(a.length:Int))/\
  ((([]:List Int)++(fe a 0 n)).length*4<=140737488355328)/\
  Q (([]:List Int)++(fe a 0 n))
def nB (a:List Int) (s:Int) (Q:List Int->Prop):Prop:=
 aH (σ:=Int×Int×(List Int)) (0,0,[]) λ⟨carry,x,out⟩ next1=>
  ac (decide (x<(a.length:Int)))
   (((0:Int)<=x/\x<(a.length:Int))/\
   ((0:Int)<=s/\s<=64)/\
   iS (bits .or .u64 carry (wrap .u64 ((wrap .u64 (at' a x))*2^(toNat s)))) λcarry1=>
   ((out++[(wrap .u32 carry1)]).length*4<=140737488355328)/\
   rng (x+1)/\
   next1 ((carry1 / 2^(toNat 32)),(x+1),(out++[(wrap .u32 carry1)])))
   (((out++[(wrap .u32 carry)]).length*4<=140737488355328)/\
   cQ (out++[(wrap .u32 carry)]) λr=>
   Q r)
def ca (a:List Int) (i:Int) (Q:Int->Prop):Prop:=
 ac (decide (i<(a.length:Int)))
  (((0:Int)<=i/\i<(a.length:Int))/\
  Q (wrap .u64 (at' a i)))
  (Q 0)
def lV (a:List Int) (b:List Int) (Q:List Int->Prop):Prop:=
 rng ((a.length:Int)+(b.length:Int))/\
 rng (((a.length:Int)+(b.length:Int))+1)/\
 fS 4 (((a.length:Int)+(b.length:Int))+1) (((a.length:Int)+(b.length:Int))+1)/\
 aH (σ:=Int×(List Int)) (0,(aQ (((a.length:Int)+(b.length:Int))+1) 0)) λ⟨x,out⟩ next1=>
  ac (decide (x<(a.length:Int)))
   (((0:Int)<=x/\x<(a.length:Int))/\
   rng ((b.length:Int)+1)/\
   aH (σ:=Int×Int×(List Int)) (0,0,out) λ⟨carry,x1,out1⟩ next2=>
    ac (decide (x1<((b.length:Int)+1)))
     (fk (ca b x1) λr=>
     rng (x+x1)/\
     ((0:Int)<=(x+x1)/\(x+x1)<(out1.length:Int))/\
     rng (x+x1)/\
     ((0:Int)<=(x+x1)/\(x+x1)<(out1.length:Int))/\
     iS ((wrap .u64 ((wrap .u64 ((wrap .u64 ((wrap .u64 (at' a x))*r))+(wrap .u64 (at' out1 (x+x1)))))+carry)) / 2^(toNat 32)) λcarry1=>
     rng (x1+1)/\
     next2 (carry1,(x1+1),(aN out1 (x+x1) (wrap .u32 (wrap .u64 ((wrap .u64 ((wrap .u64 ((wrap .u64 (at' a x))*r))+(wrap .u64 (at' out1 (x+x1)))))+carry))))))
     (rng (x+1)/\
     next1 ((x+1),out1)))
   (cQ out λr1=>
   Q r1)
def jK (a:List Int) (b:List Int) (Q:Int->Prop):Prop:=
 rng ((max (a.length:Int) (b.length:Int))-1)/\
 iS ((max (a.length:Int) (b.length:Int))-1) λi=>
 aH (σ:=Int) i λi1 next1=>
  ac (decide (0<=i1))
   (ca a i1 λr=>
   ca b i1 λr1=>
   ac (decide (r<r1))
    (Q (-1))
    (ca a i1 λr2=>
    ca b i1 λr3=>
    ac (decide (r3<r2))
     (Q 1)
     (rng (i1-1)/\
     next1 (i1-1))))
   (Q 0)
def lU (a:List Int) (b:List Int) (Q:List Int->Int->Prop):Prop:=
 jK a b λr=>
 ac (decide (r<0))
  (Q [] 3)
  (aH (σ:=Int×Int×(List Int)) (0,0,[]) λ⟨borrow,x,out⟩ next1=>
   ac (decide (x<(a.length:Int)))
    (ca a x λr1=>
    ca b x λr2=>
    iS (wrap .u64 ((wrap .u64 (r1-r2))-borrow)) λs=>
    ((out++[(wrap .u32 s)]).length*4<=140737488355328)/\
    rng (x+1)/\
    next1 ((s / 2^(toNat 63)),(x+1),(out++[(wrap .u32 s)])))
    (cQ out λr3=>
    Q r3 0))
def ky (a:List Int) (s:Int) (Q:List Int->Prop):Prop:=
 aH (σ:=Int×(List Int)) (0,[]) λ⟨x,out⟩ next1=>
  ac (decide (x<(a.length:Int)))
   (ca a x λr=>
   rng (x+1)/\
   ca a (x+1) λr1=>
   ((0:Int)<=s/\s<=64)/\
   ((out++[(wrap .u32 ((bits .or .u64 r (wrap .u64 (r1*2^(toNat 32)))) / 2^(toNat s)))]).length*4<=140737488355328)/\
   rng (x+1)/\
   next1 ((x+1),(out++[(wrap .u32 ((bits .or .u64 r (wrap .u64 (r1*2^(toNat 32)))) / 2^(toNat s)))])))
   (cQ out λr2=>
   Q r2)
def jJ (a:List Int) (b:List Int) (Q:List Int->List Int->Int->Prop):Prop:=
 cQ b λb1=>
 ac ((b1.length:Int) == 0)
  (Q [] [] 8)
  (aH (σ:=Int) 0 λs next1=>
   rng ((b1.length:Int)-1)/\
   ((0:Int)<=((b1.length:Int)-1)/\((b1.length:Int)-1)<(b1.length:Int))/\
   ((0:Int)<=s/\s<=32)/\
   ac ((bits .and .u32 (wrap .u32 ((at' b1 ((b1.length:Int)-1))*2^(toNat s))) 2147483648) == 0)
    (rng (s+1)/\
    next1 (s+1))
    (nB a s λa1=>
    nB b1 s λb2=>
    fS 4 (a1.length:Int) (a1.length:Int)/\
    rng ((a1.length:Int)-(b1.length:Int))/\
    rng (((a1.length:Int)-(b1.length:Int))+1)/\
    ((0:Int)<=(max 0 (((a1.length:Int)-(b1.length:Int))+1))/\(max 0 (((a1.length:Int)-(b1.length:Int))+1))<=(a1.length:Int)/\(a1.length:Int)<=(a1.length:Int))/\
    ((([]:List Int)++(fe a1 (max 0 (((a1.length:Int)-(b1.length:Int))+1)) (a1.length:Int))).length*4<=140737488355328)/\
    rng ((a1.length:Int)-(b1.length:Int))/\
    aH (σ:=(List Int)×Int×(List Int)) ((([]:List Int)++(fe a1 (max 0 (((a1.length:Int)-(b1.length:Int))+1)) (a1.length:Int))),((a1.length:Int)-(b1.length:Int)),(aQ (a1.length:Int) 0)) λ⟨r,i,q⟩ next2=>
     ac (decide (0<=i))
      (((0:Int)<=i/\i<(a1.length:Int))/\
      (([(at' a1 i)]++r).length*4<=140737488355328)/\
      cQ ([(at' a1 i)]++r) λr1=>
      ca r1 (b1.length:Int) λr2=>
      rng ((b1.length:Int)-1)/\
      ca r1 ((b1.length:Int)-1) λr3=>
      rng ((b1.length:Int)-1)/\
      ca b2 ((b1.length:Int)-1) λr4=>
      r4≠0/\
      iS (min (wrap .u64 (tdiv (bits .or .u64 (wrap .u64 (r2*2^(toNat 32))) r3) r4)) 4294967295) λguess=>
      lV b2 [(wrap .u32 guess)] λp=>
      aH (σ:=Int×(List Int)) (guess,p) λ⟨guess1,p1⟩ next3=>
       jK p1 r1 λr5=>
       ac (decide (0<r5))
        (lU p1 b2 λr6 _=>
        next3 ((wrap .u64 (guess1-1)),r6))
        (lU r1 p1 λr8 _=>
        ((0:Int)<=i/\i<(q.length:Int))/\
        rng (i-1)/\
        next2 (r8,(i-1),(aN q i (wrap .u32 guess1)))))
      (cQ q λr10=>
      ky r s λr11=>
      Q r10 r11 0)))
def lW (a:List Int) (b:List Int) (Q:List Int->Prop):Prop:=
 cQ a λa1=>
 cQ b λb1=>
 aH (σ:=(List Int)×(List Int)) (a1,b1) λ⟨a2,b2⟩ next1=>
  ac (decide (0<(b2.length:Int)))
   (jJ a2 b2 λ_ r1 _=>
   next1 (b2,r1))
   (Q a2)
def iB (Q:List Int->Prop):Prop:=
 Q [1]
def gI (a:List Int) (Q:Bool->Prop):Prop:=
 ac (decide (0<(a.length:Int)))
  (rng ((a.length:Int)-1)/\
  ((0:Int)<=((a.length:Int)-1)/\((a.length:Int)-1)<(a.length:Int))/\
  Q ((at' a ((a.length:Int)-1)) != 0))
  (Q false)
def dl (a:GRat) (Q:Bool->Prop):Prop:=
 bM (α:=Bool) (λnext1=>
  ac ((a.L.length:Int) == 0)
   (next1 ((a.W.length:Int) == 0))
   (next1 false))
  λx=>
  ac x
   (Q (!a.U))
   (gI a.L λr=>
   ac r
    (gI a.W λr1=>
    ac r1
     (jx a.L a.W λr2=>
     iB λr3=>
     du r2 r3 λr4=>
     Q (r4 == 0))
     (Q false))
    (Q false))
def bV (a:GRat) (Q:Bool->List Int->List Int->Prop):Prop:=
 bM (α:=Bool) (λnext1=>
  dl a λr1=>
  ac (!r1)
   (next1 true)
   (next1 ((a.L.length:Int) == 0)))
  λx=>
  ac x
   (iB λr=>
   Q false [] r)
   (Q a.U a.L a.W)
def cn (neg:Bool) (num:List Int) (den:List Int) (Q:GRat->Prop):Prop:=
 lw num λr=>
 ac (r == 0)
  (Q (⟨false,[],[]⟩:GRat))
  (jx num den λg2=>
  gV num g2 λr1 _ _=>
  gV den g2 λr4 _ _=>
  Q (⟨neg,r1,r4⟩:GRat))
def bu (a:GRat) (b:GRat) (Q:GRat->Prop):Prop:=
 bV a λr r1 r2=>
 bV b λr3 r4 r5=>
 cO r1 r5 λp=>
 cO r4 r2 λq=>
 cO r2 r5 λden=>
 ac (r == r3)
  (jy p q λr6=>
  cn r r6 den λr7=>
  Q r7)
  (du p q λr8=>
  ac (decide (0<=r8))
   (jw p q λr9 _=>
   cn r r9 den λr11=>
   Q r11)
   (jw q p λr12 _=>
   cn r3 r12 den λr14=>
   Q r14))
def jU (n:Int) (Q:List Int->Prop):Prop:=
 ac (n == (-9223372036854775808))
  (Q [0,2147483648])
  (rng (-n)/\
  kA (max n (-n)) λr=>
  Q r)
def bW (n:Int) (Q:GRat->Prop):Prop:=
 jU n λr=>
 iB λr1=>
 cn (decide (n<0)) r r1 λr2=>
 Q r2
def li (a:GRat) (Q:GRat->Prop):Prop:=
 bV a λr r1 r2=>
 cn (!r) r1 r2 λr3=>
 Q r3
def cg (a:GRat) (b:GRat) (Q:GRat->Prop):Prop:=
 fk (li b) λr=>
 fk (bu a r) λr1=>
 Q r1
def bh (a:GRat) (Q:Int->Prop):Prop:=
 bV a λr r1 _=>
 ac ((r1.length:Int) == 0)
  (Q 0)
  (ac r
   (Q (-1))
   (Q 1))
def ez (a:GRat) (b:GRat) (Q:GRat->Option Int->Prop):Prop:=
 bV a λr r1 r2=>
 bV b λr3 r4 r5=>
 ac ((r4.length:Int) == 0)
  (Q (⟨false,[],[]⟩:GRat) (some 8))
  (cO r1 r5 λr6=>
  cO r2 r4 λr7=>
  cn (r != r3) r6 r7 λr8=>
  Q r8 none)
def cA (a:GRat) (b:GRat) (Q:GRat->Prop):Prop:=
 bV a λr r1 r2=>
 bV b λr3 r4 r5=>
 cO r1 r4 λr6=>
 cO r2 r5 λr7=>
 cn (r != r3) r6 r7 λr8=>
 Q r8
def nA (neg:Bool) (num:List Int) (den:List Int) (Q:GRat->Int->Prop):Prop:=
 iA den λr=>
 ac (r == 0)
  (Q (⟨false,[],[]⟩:GRat) 8)
  (iA num λr1=>
  ac (r1 == 0)
   (Q (⟨false,[],[]⟩:GRat) 0)
   (lW num den λg2=>
   jJ num g2 λr2 _ _=>
   jJ den g2 λr5 _ _=>
   Q (⟨neg,r2,r5⟩:GRat) 0))
def kx (n:Int) (Q:List Int->Prop):Prop:=
 bM (α:=Int) (λnext1=>
  ac (decide (n<0))
   (iS (wrap .u64 (0-(wrap .u64 n))) λu1=>
   next1 u1)
   (next1 (wrap .u64 n)))
  λu=>
  Q [(wrap .u32 u),(wrap .u32 (u / 2^(toNat 32)))]
def nz (n:Int) (d:Int) (Q:GRat->Int->Prop):Prop:=
 kx n λr=>
 kx d λr1=>
 nA ((decide (n<0)) != (decide (d<0))) r r1 λr2 r3=>
 Q r2 r3
def kY (n:Int) (Q:GRat->Prop):Prop:=
 nz n 1 λr _=>
 Q r
def jV (a:GRat) (Q:ByteArray->Prop):Prop:=(a=⟨false,[1],[4]⟩/\Q ⟨#[49,47,52]⟩)\/(a=⟨false,[1],[1]⟩/\Q ⟨#[49]⟩)
def jr (a:GRat) (Q:Bool->Prop):Prop:=
 bM (α:=Bool) (λnext1=>
  ac ((a.L.length:Int) == 0)
   (next1 true)
   (next1 ((a.W.length:Int) == 0)))
  λx=>
  ac x
   (ac ((a.L.length:Int) == 0)
    (ac ((a.W.length:Int) == 0)
     (Q (!a.U))
     (Q false))
    (Q false))
   (rng ((a.L.length:Int)-1)/\
   ((0:Int)<=((a.L.length:Int)-1)/\((a.L.length:Int)-1)<(a.L.length:Int))/\
   ac ((at' a.L ((a.L.length:Int)-1)) != 0)
    (rng ((a.W.length:Int)-1)/\
    ((0:Int)<=((a.W.length:Int)-1)/\((a.W.length:Int)-1)<(a.W.length:Int))/\
    ac ((at' a.W ((a.W.length:Int)-1)) != 0)
     (lW a.L a.W λr=>
     iA r λr1=>
     Q (r1 == 1))
     (Q false))
    (Q false))
def mu (a:GRat) (Q:Bool->List Int->List Int->Prop):Prop:=
 bM (α:=Bool) (λnext1=>
  jr a λr=>
  ac (!r)
   (next1 true)
   (next1 ((a.L.length:Int) == 0)))
  λx=>
  ac x
   (Q false [] [1])
   (Q a.U a.L a.W)
def ny (a:GRat) (Q:Int->Prop):Prop:=
 mu a λr r1 _=>
 ac ((r1.length:Int) == 0)
  (Q 0)
  (ac r
   (Q (-1))
   (Q 1))
def xr (err:Option Int) (code:Int) (Q:Bool->Prop):Prop:=
 ac (isSome err)
  (Q ((getD err 0) == code))
  (Q false)
def jW (a:GRat) (Q:Bool->Prop):Prop:=
 dl a λr=>
 ac r
  (ac (!a.U)
   (du a.L a.W λr1=>
   Q (decide (r1<=0)))
   (Q false))
  (Q false)
def eB (a:GRat) (b:GRat) (Q:Int->Prop):Prop:=
 cg a b λr=>
 bh r λr1=>
 Q r1
def nw (f:GFormula) (i:Int) (Q:Int->Prop):Prop:=
 ((0:Int)<=i/\i<(f.N.length:Int))/\
 bM (α:=Int×Int) (λnext2=>
  ac ((at' f.N i).F == 0)
   (next2 (0,0))
   (ac ((at' f.N i).F == 1)
    (next2 (1,1))
    (ac ((at' f.N i).F == 2)
     (next2 (1,16))
     (ac ((at' f.N i).F == 3)
      (next2 (1,16))
      (ac ((at' f.N i).F == 4)
       (next2 (1,16))
       (ac ((at' f.N i).F == 5)
        (next2 (1,16))
        (Q 7)))))))
  λ⟨zG,most⟩=>
  ac (decide ((((at' f.N i).M).length:Int)<zG))
   (Q 11)
   (ac (decide (most<(((at' f.N i).M).length:Int)))
    (Q 11)
    (aH (σ:=Int) 0 λx next1=>
     ac (decide (x<(((at' f.N i).M).length:Int)))
      (((0:Int)<=x/\x<(((at' f.N i).M).length:Int))/\
      ac (decide ((at' ((at' f.N i).M) x)<0))
       (Q 10)
       (rng (f.A+i)/\
       ac (decide ((f.A+i)<=(at' ((at' f.N i).M) x)))
        (Q 10)
        (rng (x+1)/\
        next1 (x+1))))
      (ac ((at' f.N i).F == 0)
       (ac ((at' f.N i).K != 0)
        (ac ((at' f.N i).K != 1)
         (Q 3)
         (Q 0))
        (Q 0))
       (ac ((at' f.N i).F == 4)
        (ac (decide ((at' f.N i).K<1))
         (Q 3)
         (ac (decide ((((at' f.N i).M).length:Int)<(at' f.N i).K))
          (Q 3)
          (Q 0)))
        (ac ((at' f.N i).K != 0)
         (Q 2)
         (Q 0))))))
def mq (f:GFormula) (arg:Int) (Q:Bool->Prop):Prop:=
 ac (decide (0<=f.A))
  (ac (decide (0<=arg))
   (ac (decide (arg<f.A))
    (Q true)
    (rng (arg-f.A)/\
    Q (decide ((arg-f.A)<(f.N.length:Int)))))
   (Q false))
  (Q false)
def mr (f:GFormula) (Q:Int->Prop):Prop:=
 ac (decide (f.A<0))
  (Q 3)
  (ac (decide (24<f.A))
   (Q 3)
   (ac (decide (128<(f.N.length:Int)))
    (Q 4)
    (aH (σ:=Int) 0 λx next1=>
     ac (decide (x<(f.N.length:Int)))
      (nw f x λe=>
      ac (e != 0)
       (Q e)
       (rng (x+1)/\
       next1 (x+1)))
      (mq f f.Z λr=>
      ac (!r)
       (Q 10)
       (Q 0)))))
def gS (kind:Int) (n:Int) (Q:Bool->Prop):Prop:=
 ac (kind == 0)
  (Q (n == 0))
  (ac (kind == 1)
   (Q (n == 1))
   (ac (decide (1<=n))
    (Q (decide (n<=16)))
    (Q false)))
def gR (f:GFormula) (i:Int) (Q:Option Int->Prop):Prop:=
 ((0:Int)<=i/\i<(f.N.length:Int))/\
 bM (α:=Bool) (λnext5=>
  ac (decide ((at' f.N i).F<0))
   (next5 true)
   (next5 (decide (5<(at' f.N i).F))))
  λx=>
  ac x
   (Q (some 7))
   (gS ((at' f.N i).F) (((at' f.N i).M).length:Int) λr=>
   ac (!r)
    (Q (some 11))
    (aH (σ:=Int) 0 λx1 next1=>
     ac (decide (x1<(((at' f.N i).M).length:Int)))
      (((0:Int)<=x1/\x1<(((at' f.N i).M).length:Int))/\
      bM (α:=Bool) (λnext2=>
       ac (decide ((at' ((at' f.N i).M) x1)<0))
        (next2 true)
        (rng (f.A+i)/\
        next2 (decide ((f.A+i)<=(at' ((at' f.N i).M) x1)))))
       λx2=>
       ac x2
        (Q (some 10))
        (rng (x1+1)/\
        next1 (x1+1)))
      (ac ((at' f.N i).F == 0)
       (bM (α:=Bool) (λnext3=>
        ac ((at' f.N i).K != 0)
         (next3 ((at' f.N i).K != 1))
         (next3 false))
        λx3=>
        ac x3
         (Q (some 3))
         (Q none))
       (ac ((at' f.N i).F == 4)
        (bM (α:=Bool) (λnext4=>
         ac (decide ((at' f.N i).K<1))
          (next4 true)
          (next4 (decide ((((at' f.N i).M).length:Int)<(at' f.N i).K))))
         λx4=>
         ac x4
          (Q (some 3))
          (Q none))
        (ac ((at' f.N i).K != 0)
         (Q (some 2))
         (Q none))))))
def kh (f:GFormula) (arg:Int) (Q:Bool->Prop):Prop:=
 ac (decide (0<=f.A))
  (ac (decide (0<=arg))
   (ac (decide (arg<f.A))
    (Q true)
    (rng (arg-f.A)/\
    Q (decide ((arg-f.A)<(f.N.length:Int)))))
   (Q false))
  (Q false)
def db (f:GFormula) (Q:Option Int->Prop):Prop:=
 bM (α:=Bool) (λnext2=>
  ac (decide (f.A<0))
   (next2 true)
   (next2 (decide (24<f.A))))
  λx=>
  ac x
   (Q (some 3))
   (ac (decide (128<(f.N.length:Int)))
    (Q (some 4))
    (aH (σ:=Int) 0 λx1 next1=>
     ac (decide (x1<(f.N.length:Int)))
      (gR f x1 λe=>
      ac (isSome e)
       (Q e)
       (rng (x1+1)/\
       next1 (x1+1)))
      (kh f f.Z λr=>
      ac (!r)
       (Q (some 10))
       (Q none))))
def ke (f:GFormula) (failed:Int) (Q:Option Int->Prop):Prop:=
 db f λe=>
 ac (isSome e)
  (Q e)
  (bM (α:=Bool) (λnext1=>
   ac (decide (failed<0))
    (next1 true)
    ((((0:Int)<=f.A/\f.A<=64)/\rng (1*2^(toNat f.A)))/\
    next1 (decide ((1*2^(toNat f.A))<=failed))))
   λx=>
   ac x
    (Q (some 3))
    (Q none))
def ji (f:GFormula) (failed:Int) (Q:List Bool->Prop):Prop:=
 rng (f.A+(f.N.length:Int))/\
 fS 1 f.A (f.A+(f.N.length:Int))/\
 aH (σ:=Int×(List Bool)) (0,(aQ f.A false)) λ⟨x,v⟩ next1=>
  ac (decide (x<((toNat f.A):Int)))
   (((0:Int)<=x/\x<=64)/\
   ((0:Int)<=x/\x<(v.length:Int))/\
   rng (x+1)/\
   next1 ((x+1),(aN v x ((bits .and .i64 (failed / 2^(toNat x)) 1) == 1))))
   (aH (σ:=Int×(List Bool)) (0,v) λ⟨x1,v1⟩ next2=>
    ac (decide (x1<(f.N.length:Int)))
     (((0:Int)<=x1/\x1<(f.N.length:Int))/\
     aH (σ:=Int×Int) (0,0) λ⟨n,x2⟩ next3=>
      ac (decide (x2<(((at' f.N x1).M).length:Int)))
       (((0:Int)<=x2/\x2<(((at' f.N x1).M).length:Int))/\
       ((0:Int)<=(at' ((at' f.N x1).M) x2)/\(at' ((at' f.N x1).M) x2)<(v1.length:Int))/\
       ac (at' v1 (at' ((at' f.N x1).M) x2))
        (rng (n+1)/\
        rng (x2+1)/\
        next3 ((n+1),(x2+1)))
        (rng (x2+1)/\
        next3 (n,(x2+1))))
       (bM (α:=Bool) (λnext4=>
        ac ((at' f.N x1).F == 0)
         (next4 ((at' f.N x1).K == 1))
         (ac ((at' f.N x1).F == 1)
          (next4 (n == 0))
          (ac ((at' f.N x1).F == 2)
           (next4 (n == (((at' f.N x1).M).length:Int)))
           (ac ((at' f.N x1).F == 3)
            (next4 (decide (0<n)))
            (ac ((at' f.N x1).F == 4)
             (next4 (decide ((at' f.N x1).K<=n)))
             (ac ((at' f.N x1).F == 5)
              (next4 ((tmod n 2) == 1))
              (next4 false)))))))
        λis=>
        ((v1++[is]).length*1<=140737488355328)/\
        rng (x1+1)/\
        next2 ((x1+1),(v1++[is]))))
     (Q v1))
def kg (f:GFormula) (failed:Int) (Q:Bool->Option Int->Prop):Prop:=
 ke f failed λe=>
 ac (isSome e)
  (Q false e)
  (fk (ji f failed) λr=>
  ((0:Int)<=f.Z/\f.Z<(r.length:Int))/\
  Q (at' r f.Z) none)
def hH (f:GFormula) (Q:List Bool->Prop):Prop:=
 rng (f.A+(f.N.length:Int))/\
 fS 1 (f.A+(f.N.length:Int)) (f.A+(f.N.length:Int))/\
 ((0:Int)<=f.Z/\f.Z<((toNat (f.A+(f.N.length:Int))):Int))/\
 rng ((f.N.length:Int)-1)/\
 aH (σ:=Int×(List Bool)) (((f.N.length:Int)-1),(aN (aQ (f.A+(f.N.length:Int)) false) f.Z true)) λ⟨i,mark⟩ next1=>
  ac (decide (0<=i))
   (rng (f.A+i)/\
   ((0:Int)<=(f.A+i)/\(f.A+i)<(mark.length:Int))/\
   ac (at' mark (f.A+i))
    (((0:Int)<=i/\i<(f.N.length:Int))/\
    aH (σ:=Int×(List Bool)) (0,mark) λ⟨x,mark1⟩ next2=>
     ac (decide (x<(((at' f.N i).M).length:Int)))
      (((0:Int)<=x/\x<(((at' f.N i).M).length:Int))/\
      ((0:Int)<=(at' ((at' f.N i).M) x)/\(at' ((at' f.N i).M) x)<(mark1.length:Int))/\
      rng (x+1)/\
      next2 ((x+1),(aN mark1 (at' ((at' f.N i).M) x) true)))
      (rng (i-1)/\
      next1 ((i-1),mark1)))
    (rng (i-1)/\
    next1 ((i-1),mark)))
   (Q mark)
def lD (f:GFormula) (Q:Int->Int->Option Int->Prop):Prop:=
 db f λe=>
 ac (isSome e)
  (Q 0 0 e)
  (fk (hH f) λr=>
  ((0:Int)<=f.A/\f.A<=(r.length:Int)/\(r.length:Int)<=(r.length:Int))/\
  aH (σ:=Int×Int×Int) (0,0,0) λ⟨nodes,args,x⟩ next1=>
   ac (decide (x<((fe r f.A (r.length:Int)).length:Int)))
    (((0:Int)<=x/\x<((fe r f.A (r.length:Int)).length:Int))/\
    ac (at' (fe r f.A (r.length:Int)) x)
     (rng (nodes+1)/\
     ((0:Int)<=x/\x<(f.N.length:Int))/\
     rng (args+(((at' f.N x).M).length:Int))/\
     iS (args+(((at' f.N x).M).length:Int)) λargs1=>
     rng (x+1)/\
     next1 ((nodes+1),args1,(x+1)))
     (rng (x+1)/\
     next1 (nodes,args,(x+1))))
    (Q nodes args none))
def lz (f:GFormula) (Q:GFormula->Option Int->Prop):Prop:=
 db f λe=>
 ac (isSome e)
  (Q (⟨0,[],0⟩:GFormula) e)
  (rng (f.A+(f.N.length:Int))/\
  fS 8 (f.A+(f.N.length:Int)) (f.A+(f.N.length:Int))/\
  aH (σ:=Int×(List Int)) (0,(aQ (f.A+(f.N.length:Int)) 0)) λ⟨x,to⟩ next1=>
   ac (decide (x<f.A))
    (((0:Int)<=x/\x<(to.length:Int))/\
    rng (x+1)/\
    next1 ((x+1),(aN to x x)))
    (fk (hH f) λr=>
    ((0:Int)<=f.A/\f.A<=(r.length:Int)/\(r.length:Int)<=(r.length:Int))/\
    aH (σ:=Int×(List Int)×(List GNode)) (0,to,[]) λ⟨x1,to1,x2⟩ next2=>
     ac (decide (x1<((fe r f.A (r.length:Int)).length:Int)))
      (((0:Int)<=x1/\x1<((fe r f.A (r.length:Int)).length:Int))/\
      ac (!(at' (fe r f.A (r.length:Int)) x1))
       (rng (x1+1)/\
       next2 ((x1+1),to1,x2))
       (((0:Int)<=x1/\x1<(f.N.length:Int))/\
       aH (σ:=Int×(List Int)) (0,[]) λ⟨x3,x4⟩ next3=>
        ac (decide (x3<(((at' f.N x1).M).length:Int)))
         (((0:Int)<=x3/\x3<(((at' f.N x1).M).length:Int))/\
         ((0:Int)<=(at' ((at' f.N x1).M) x3)/\(at' ((at' f.N x1).M) x3)<(to1.length:Int))/\
         ((x4++[(at' to1 (at' ((at' f.N x1).M) x3))]).length*8<=140737488355328)/\
         rng (x3+1)/\
         next3 ((x3+1),(x4++[(at' to1 (at' ((at' f.N x1).M) x3))])))
         (rng (f.A+x1)/\
         rng (f.A+(x2.length:Int))/\
         ((0:Int)<=(f.A+x1)/\(f.A+x1)<(to1.length:Int))/\
         ((x2++[(⟨(at' f.N x1).F,(at' f.N x1).K,x4⟩:GNode)]).length*40<=140737488355328)/\
         rng (x1+1)/\
         next2 ((x1+1),(aN to1 (f.A+x1) (f.A+(x2.length:Int))),(x2++[(⟨(at' f.N x1).F,(at' f.N x1).K,x4⟩:GNode)])))))
      (((0:Int)<=f.Z/\f.Z<(to1.length:Int))/\
      Q (⟨f.A,x2,(at' to1 f.Z)⟩:GFormula) none)))
def fp (x:GRat) (Q:Bool->Prop):Prop:=
 dl x λr=>
 ac r
  (bh x λr1=>
  Q (decide (0<=r1)))
  (Q false)
def eQ (fail:GRat) (repair:GRat) (Q:GRat->Option Int->Prop):Prop:=
 bM (α:=Bool) (λnext1=>
  fp fail λr3=>
  ac (!r3)
   (next1 true)
   (fp repair λr4=>
   next1 (!r4)))
  λx=>
  ac x
   (Q (⟨false,[],[]⟩:GRat) (some 3))
   (fk (bu fail repair) λr=>
   xk (ez fail r) λr1 r2=>
   Q r1 r2)
def gY (fail:List GRat) (repair:List GRat) (Q:Option Int->Prop):Prop:=
 bM (α:=Bool) (λnext5=>
  ac ((fail.length:Int) != (repair.length:Int))
   (next5 true)
   (next5 ((fail.length:Int) == 0)))
  λx=>
  ac x
   (Q (some 11))
   (ac (decide (8<(fail.length:Int)))
    (Q (some 4))
    (aH (σ:=Int) 0 λx1 next1=>
     ac (decide (x1<(fail.length:Int)))
      (bM (α:=Bool) (λnext2=>
       ((0:Int)<=x1/\x1<(fail.length:Int))/\
       fp (at' fail x1) λr=>
       ac (!r)
        (next2 true)
        (((0:Int)<=x1/\x1<(repair.length:Int))/\
        fp (at' repair x1) λr1=>
        next2 (!r1)))
       λx2=>
       ac x2
        (Q (some 3))
        (rng (x1+1)/\
        next1 (x1+1)))
      (aH (σ:=Int) 0 λx3 next3=>
       ac (decide (x3<(fail.length:Int)))
        (bM (α:=Bool) (λnext4=>
         ((0:Int)<=x3/\x3<(fail.length:Int))/\
         bh (at' fail x3) λr2=>
         ac (r2 == 0)
          (((0:Int)<=x3/\x3<(repair.length:Int))/\
          bh (at' repair x3) λr3=>
          next4 (r3 == 0))
          (next4 false))
         λx4=>
         ac x4
          (Q (some 8))
          (rng (x3+1)/\
          next3 (x3+1)))
        (Q none))))
def jX (fail:List GRat) (repair:List GRat) (f:GFormula) (Q:GChain->Option Int->Prop):Prop:=
 gY fail repair λe=>
 ac (isSome e)
  (Q (⟨0,0,[],[]⟩:GChain) e)
  (db f λe1=>
  ac (isSome e1)
   (Q (⟨0,0,[],[]⟩:GChain) e1)
   (ac (f.A != (fail.length:Int))
    (Q (⟨0,0,[],[]⟩:GChain) (some 11))
    ((((0:Int)<=(fail.length:Int)/\(fail.length:Int)<=64)/\rng (1*2^(toNat (fail.length:Int))))/\
    (((0:Int)<=(fail.length:Int)/\(fail.length:Int)<=64)/\rng (1*2^(toNat (fail.length:Int))))/\
    aH (σ:=Int×(List Bool)×(List GMove)) (0,[],[]) λ⟨x,x1,x2⟩ next1=>
     ac (decide (x<(1*2^(toNat (fail.length:Int)))))
      (kg f x λr r1=>
      ac (isSome r1)
       (Q (⟨0,0,[],[]⟩:GChain) r1)
       (((x1++[r]).length*1<=140737488355328)/\
       rng ((fail.length:Int)-1)/\
       aH (σ:=Int×(List GMove)) (((fail.length:Int)-1),x2) λ⟨i,x3⟩ next2=>
        ac (decide (0<=i))
         (bM (α:=Bool) (λnext3=>
          ((0:Int)<=i/\i<=64)/\
          ac ((bits .and .i64 (x / 2^(toNat i)) 1) == 1)
           (((0:Int)<=i/\i<(repair.length:Int))/\
           bh (at' repair i) λr3=>
           next3 (decide (0<r3)))
           (next3 false))
          λx4=>
          ac x4
           ((((0:Int)<=i/\i<=64)/\rng (1*2^(toNat i)))/\
           ((0:Int)<=i/\i<(repair.length:Int))/\
           fk (bu (at' repair i) (⟨false,[],[]⟩:GRat)) λr2=>
           ((x3++[(⟨x,(bits .andNot .i64 x (1*2^(toNat i))),(⟨r2.U,r2.L,r2.W⟩:GRat)⟩:GMove)]).length*72<=140737488355328)/\
           rng (i-1)/\
           next2 ((i-1),(x3++[(⟨x,(bits .andNot .i64 x (1*2^(toNat i))),(⟨r2.U,r2.L,r2.W⟩:GRat)⟩:GMove)])))
           (rng (i-1)/\
           next2 ((i-1),x3)))
         (aH (σ:=Int×(List GMove)) (0,x3) λ⟨x5,x6⟩ next4=>
          ac (decide (x5<(fail.length:Int)))
           (bM (α:=Bool) (λnext5=>
            ((0:Int)<=x5/\x5<=64)/\
            ac ((bits .and .i64 (x / 2^(toNat x5)) 1) == 0)
             (((0:Int)<=x5/\x5<(fail.length:Int))/\
             bh (at' fail x5) λr5=>
             next5 (decide (0<r5)))
             (next5 false))
            λx7=>
            ac x7
             ((((0:Int)<=x5/\x5<=64)/\rng (1*2^(toNat x5)))/\
             ((0:Int)<=x5/\x5<(fail.length:Int))/\
             fk (bu (at' fail x5) (⟨false,[],[]⟩:GRat)) λr4=>
             ((x6++[(⟨x,(bits .or .i64 x (1*2^(toNat x5))),(⟨r4.U,r4.L,r4.W⟩:GRat)⟩:GMove)]).length*72<=140737488355328)/\
             rng (x5+1)/\
             next4 ((x5+1),(x6++[(⟨x,(bits .or .i64 x (1*2^(toNat x5))),(⟨r4.U,r4.L,r4.W⟩:GRat)⟩:GMove)])))
             (rng (x5+1)/\
             next4 ((x5+1),x6)))
           (rng (x+1)/\
           next1 ((x+1),(x1++[r]),x6)))))
      (Q (⟨(1*2^(toNat (fail.length:Int))),0,x2,x1⟩:GChain) none))))
def gl (fail:List GRat) (repair:List GRat) (Q:List GRat->Option Int->Prop):Prop:=
 gY fail repair λe=>
 ac (isSome e)
  (Q [] e)
  (bW 1 λr=>
  aH (σ:=(List GRat)×Int) ([r],0) λ⟨out,x⟩ next1=>
   ac (decide (x<(fail.length:Int)))
    (((0:Int)<=x/\x<(fail.length:Int))/\
    ((0:Int)<=x/\x<(repair.length:Int))/\
    xk (eQ (at' fail x) (at' repair x)) λr1 r2=>
    ac (isSome r2)
     (Q [] r2)
     (aH (σ:=Int×(List GRat)×(List GRat)) (0,[],[]) λ⟨x1,failed,works⟩ next2=>
      ac (decide (x1<(out.length:Int)))
       (((0:Int)<=x1/\x1<(out.length:Int))/\
       cA (at' out x1) r1 λr3=>
       ((failed++[r3]).length*56<=140737488355328)/\
       fk (bW 1) λr4=>
       fk (cg r4 r1) λr5=>
       fk (cA (at' out x1) r5) λr6=>
       ((works++[r6]).length*56<=140737488355328)/\
       rng (x1+1)/\
       next2 ((x1+1),(failed++[r3]),(works++[r6])))
       (((works++failed).length*56<=140737488355328)/\
       rng (x+1)/\
       next1 ((works++failed),(x+1)))))
    (Q out none))
def ep (s:List Bool) (Q:List Bool->Prop):Prop:=
 ∀isnil:Bool,(isnil=true->s=[])->
 ac isnil
  (Q [])
  (((([]:List Bool)++s).length*1<=140737488355328)/\
  Q (([]:List Bool)++s))
def gW (c:GChain) (s:Int) (Q:Bool->Prop):Prop:=
 ac (decide (0<=s))
  (Q (decide (s<c.H)))
  (Q false)
def lK (a:GMove) (b:GMove) (Q:Bool->Prop):Prop:=
 ac (decide (a.D<b.D))
  (Q true)
  (ac (a.D == b.D)
   (Q (decide (a.To<b.To)))
   (Q false))
def eb (c:GChain) (Q:Option Int->Prop):Prop:=
 bM (α:=Bool) (λnext5=>
  ac (decide (c.H<1))
   (next5 true)
   (next5 (decide (256<c.H))))
  λx=>
  ac x
   (Q (some 3))
   (ac ((c.B.length:Int) != c.H)
    (Q (some 11))
    (gW c c.O λr=>
    ac (!r)
     (Q (some 10))
     (aH (σ:=Int) 0 λx1 next1=>
      ac (decide (x1<(c.V.length:Int)))
       (((0:Int)<=x1/\x1<(c.V.length:Int))/\
       bM (α:=Bool) (λnext4=>
        gW c ((at' c.V x1).D) λr4=>
        ac (!r4)
         (next4 true)
         (gW c ((at' c.V x1).To) λr5=>
         next4 (!r5)))
        λx2=>
        ac x2
         (Q (some 10))
         (ac ((at' c.V x1).D == (at' c.V x1).To)
          (Q (some 2))
          (bM (α:=Bool) (λnext3=>
           dl ((at' c.V x1).X) λr2=>
           ac (!r2)
            (next3 true)
            (bh ((at' c.V x1).X) λr3=>
            next3 (decide (r3<=0))))
           λx3=>
           ac x3
            (Q (some 3))
            (bM (α:=Bool) (λnext2=>
             ac (decide (0<x1))
              (rng (x1-1)/\
              ((0:Int)<=(x1-1)/\(x1-1)<(c.V.length:Int))/\
              fk (lK (at' c.V (x1-1)) (at' c.V x1)) λr1=>
              next2 (!r1))
              (next2 false))
             λx4=>
             ac x4
              (Q (some 13))
              (rng (x1+1)/\
              next1 (x1+1))))))
       (Q none))))
def iF (a:List (List GRat)) (Q:Option Int->Prop):Prop:=
 bM (α:=Bool) (λnext3=>
  ac ((a.length:Int) == 0)
   (next3 true)
   (((0:Int)<=0/\0<(a.length:Int))/\
   next3 (((at' a 0).length:Int) == 0)))
  λx=>
  ac x
   (Q (some 11))
   (bM (α:=Bool) (λnext2=>
    ac (decide (256<(a.length:Int)))
     (next2 true)
     (((0:Int)<=0/\0<(a.length:Int))/\
     next2 (decide (256<((at' a 0).length:Int)))))
    λx1=>
    ac x1
     (Q (some 4))
     (aH (σ:=Int) 0 λx2 next1=>
      ac (decide (x2<(a.length:Int)))
       (((0:Int)<=x2/\x2<(a.length:Int))/\
       ((0:Int)<=0/\0<(a.length:Int))/\
       ac (((at' a x2).length:Int) != ((at' a 0).length:Int))
        (Q (some 11))
        (rng (x2+1)/\
        next1 (x2+1)))
       (Q none)))
def eJ (a:List (List GRat)) (Q:List (List GRat)->Prop):Prop:=
 fS 24 (a.length:Int) (a.length:Int)/\
 aH (σ:=Int×(List (List GRat))) (0,(aQ (a.length:Int) [])) λ⟨x,out⟩ next1=>
  ac (decide (x<(a.length:Int)))
   (((0:Int)<=x/\x<(a.length:Int))/\
   aH (σ:=Int×(List (List GRat))) (0,out) λ⟨x1,out1⟩ next2=>
    ac (decide (x1<((at' a x).length:Int)))
     (((0:Int)<=x1/\x1<((at' a x).length:Int))/\
     ((0:Int)<=x/\x<(out1.length:Int))/\
     fk (bu (at' (at' a x) x1) (⟨false,[],[]⟩:GRat)) λr=>
     ((at' out1 x++[r]).length*56<=140737488355328)/\
     ((0:Int)<=x/\x<(out1.length:Int))/\
     rng (x1+1)/\
     next2 ((x1+1),(aN out1 x (at' out1 x++[r]))))
     (rng (x+1)/\
     next1 ((x+1),out1)))
   (Q out)
def fz (f:GRat) (row:List GRat) (from1:List GRat) (Q:List GRat->Prop):Prop:=
 aH (σ:=Int×(List GRat)) (0,row) λ⟨x,row1⟩ next1=>
  ac (decide (x<(row.length:Int)))
   (((0:Int)<=x/\x<(from1.length:Int))/\
   bh (at' from1 x) λr=>
   ac (r != 0)
    (((0:Int)<=x/\x<(row1.length:Int))/\
    ((0:Int)<=x/\x<(from1.length:Int))/\
    fk (cA f (at' from1 x)) λr1=>
    fk (cg (at' row1 x) r1) λr2=>
    ((0:Int)<=x/\x<(row1.length:Int))/\
    rng (x+1)/\
    next1 ((x+1),(aN row1 x r2)))
    (rng (x+1)/\
    next1 ((x+1),row1)))
   (Q row1)
def eI (a:List (List GRat)) (Q:List (List GRat)->List Int->Prop):Prop:=
 bM (α:=(List Int)×(List (List GRat))) (λnext1=>
  aH (σ:=Int×(List Int)×(List (List GRat))) (0,[],a) λ⟨k1,pivots1,a2⟩ next2=>
   ((0:Int)<=0/\0<(a2.length:Int))/\
   ac (decide (k1<((at' a2 0).length:Int)))
    (ac (decide ((pivots1.length:Int)<(a2.length:Int)))
     (bM (α:=Int×(List (List GRat))) (λnext6=>
      aH (σ:=Int) (pivots1.length:Int) λrow1 next7=>
       ac (decide (row1<(a2.length:Int)))
        (((0:Int)<=row1/\row1<(a2.length:Int))/\
        ((0:Int)<=k1/\k1<((at' a2 row1).length:Int))/\
        bh (at' (at' a2 row1) k1) λr4=>
        ac (r4 == 0)
         (rng (row1+1)/\
         next7 (row1+1))
         (next6 (row1,a2)))
        (next6 (row1,a2)))
      λ⟨row,a3⟩=>
      ac (row == (a3.length:Int))
       (rng (k1+1)/\
       next2 ((k1+1),pivots1,a3))
       (((0:Int)<=row/\row<(a3.length:Int))/\
       ((0:Int)<=(pivots1.length:Int)/\(pivots1.length:Int)<(a3.length:Int))/\
       ((0:Int)<=(pivots1.length:Int)/\(pivots1.length:Int)<(a3.length:Int))/\
       ((0:Int)<=row/\row<(a3.length:Int))/\
       ((0:Int)<=(pivots1.length:Int)/\(pivots1.length:Int)<(a3.length:Int))/\
       ((0:Int)<=k1/\k1<((at' (swp a3 (pivots1.length:Int) row) (pivots1.length:Int)).length:Int))/\
       ((0:Int)<=(pivots1.length:Int)/\(pivots1.length:Int)<(a3.length:Int))/\
       aH (σ:=Int×(List (List GRat))) (0,(swp a3 (pivots1.length:Int) row)) λ⟨x,a4⟩ next3=>
        ac (decide (x<((at' (swp a3 (pivots1.length:Int) row) (pivots1.length:Int)).length:Int)))
         (((0:Int)<=(pivots1.length:Int)/\(pivots1.length:Int)<(a4.length:Int))/\
         ((0:Int)<=(pivots1.length:Int)/\(pivots1.length:Int)<(a4.length:Int))/\
         ((0:Int)<=x/\x<((at' a4 (pivots1.length:Int)).length:Int))/\
         xk (ez (at' (at' a4 (pivots1.length:Int)) x) (at' (at' (swp a3 (pivots1.length:Int) row) (pivots1.length:Int)) k1)) λr _=>
         ((0:Int)<=x/\x<((at' a4 (pivots1.length:Int)).length:Int))/\
         rng (x+1)/\
         next3 ((x+1),(aN a4 (pivots1.length:Int) (aN (at' a4 (pivots1.length:Int)) x r))))
         (aH (σ:=Int×(List (List GRat))) (0,a4) λ⟨x1,a5⟩ next4=>
          ac (decide (x1<(a4.length:Int)))
           (bM (α:=Bool×(List (List GRat))) (λnext5=>
            ac (x1 != (pivots1.length:Int))
             (((0:Int)<=x1/\x1<(a5.length:Int))/\
             ((0:Int)<=k1/\k1<((at' a5 x1).length:Int))/\
             bh (at' (at' a5 x1) k1) λr3=>
             next5 ((r3 != 0),a5))
             (next5 (false,a5)))
            λ⟨x2,a6⟩=>
            ac x2
             (((0:Int)<=x1/\x1<(a6.length:Int))/\
             ((0:Int)<=(pivots1.length:Int)/\(pivots1.length:Int)<(a6.length:Int))/\
             ((0:Int)<=x1/\x1<(a6.length:Int))/\
             ((0:Int)<=k1/\k1<((at' a6 x1).length:Int))/\
             (toNat x1≠toNat (pivots1.length:Int))/\
             ∃r2,(fz (at' (at' a6 x1) k1) (at' a6 x1) (at' a6 (pivots1.length:Int)) λy1=>y1=r2)/\
             r2.length=(at' a6 x1).length/\
             rng (x1+1)/\
             next4 ((x1+1),(aN a6 x1 r2)))
             (rng (x1+1)/\
             next4 ((x1+1),a6)))
           (((pivots1++[k1]).length*8<=140737488355328)/\
           rng (k1+1)/\
           next2 ((k1+1),(pivots1++[k1]),a5)))))
     (next1 (pivots1,a2)))
    (next1 (pivots1,a2)))
  λ⟨pivots,a1⟩=>
  ((0:Int)<=0/\0<=(pivots.length:Int)/\(pivots.length:Int)<=(a1.length:Int))/\
  Q (List.take (toNat (pivots.length:Int)) a1) pivots
def gr (a:List (List GRat)) (b:List GRat) (Q:List GRat->Option Int->Prop):Prop:=
 iF a λe=>
 ac (isSome e)
  (Q [] e)
  (ac ((b.length:Int) != (a.length:Int))
   (Q [] (some 11))
   (eJ a λall=>
   aH (σ:=Int×(List (List GRat))) (0,all) λ⟨x,all1⟩ next1=>
    ac (decide (x<(b.length:Int)))
     (((0:Int)<=x/\x<(b.length:Int))/\
     ((0:Int)<=x/\x<(all1.length:Int))/\
     fk (bu (at' b x) (⟨false,[],[]⟩:GRat)) λr=>
     ((at' all1 x++[r]).length*56<=140737488355328)/\
     ((0:Int)<=x/\x<(all1.length:Int))/\
     rng (x+1)/\
     next1 ((x+1),(aN all1 x (at' all1 x++[r]))))
     (((0:Int)<=0/\0<(a.length:Int))/\
     eI all1 λr1 r2=>
     bM (α:=Bool) (λnext3=>
      ac (decide (0<(r2.length:Int)))
       (rng ((r2.length:Int)-1)/\
       ((0:Int)<=((r2.length:Int)-1)/\((r2.length:Int)-1)<(r2.length:Int))/\
       next3 ((at' r2 ((r2.length:Int)-1)) == ((at' a 0).length:Int)))
       (next3 false))
      λx1=>
      ac x1
       (Q [] (some 17))
       (ac (decide ((r2.length:Int)<((at' a 0).length:Int)))
        (Q [] (some 16))
        (fS 56 ((at' a 0).length:Int) ((at' a 0).length:Int)/\
        aH (σ:=Int×(List GRat)) (0,(aQ ((at' a 0).length:Int) (⟨false,[],[]⟩:GRat))) λ⟨x2,x3⟩ next2=>
         ac (decide (x2<((toNat ((at' a 0).length:Int)):Int)))
          (((0:Int)<=x2/\x2<(r1.length:Int))/\
          ((0:Int)<=((at' a 0).length:Int)/\((at' a 0).length:Int)<((at' r1 x2).length:Int))/\
          ((0:Int)<=x2/\x2<(x3.length:Int))/\
          rng (x2+1)/\
          next2 ((x2+1),(aN x3 x2 (at' (at' r1 x2) ((at' a 0).length:Int)))))
          (Q x3 none))))))
def fE (c:GChain) (Q:List (List Bool)->Prop):Prop:=
 fS 24 c.H c.H/\
 aH (σ:=Int×(List (List Int))) (0,(aQ c.H [])) λ⟨x,next1⟩ next2=>
  ac (decide (x<(c.V.length:Int)))
   (((0:Int)<=x/\x<(c.V.length:Int))/\
   ((0:Int)<=(at' c.V x).D/\(at' c.V x).D<(next1.length:Int))/\
   ((at' next1 ((at' c.V x).D)++[(at' c.V x).To]).length*8<=140737488355328)/\
   ((0:Int)<=(at' c.V x).D/\(at' c.V x).D<(next1.length:Int))/\
   rng (x+1)/\
   next2 ((x+1),(aN next1 ((at' c.V x).D) (at' next1 ((at' c.V x).D)++[(at' c.V x).To]))))
   (aH (σ:=Int×(List (List Bool))) (0,[]) λ⟨x1,out⟩ next3=>
    ac (decide (x1<c.H))
     (fS 1 c.H c.H/\
     ((0:Int)<=x1/\x1<((toNat c.H):Int))/\
     aH (σ:=(List Bool)×(List Int)) ((aN (aQ c.H false) x1 true),[x1]) λ⟨seen,list⟩ next4=>
      ac (decide (0<(list.length:Int)))
       (rng ((list.length:Int)-1)/\
       ((0:Int)<=((list.length:Int)-1)/\((list.length:Int)-1)<(list.length:Int))/\
       rng ((list.length:Int)-1)/\
       ((0:Int)<=0/\0<=((list.length:Int)-1)/\((list.length:Int)-1)<=(list.length:Int))/\
       iS (List.take (toNat ((list.length:Int)-1)) list) λlist1=>
       ((0:Int)<=(at' list ((list.length:Int)-1))/\(at' list ((list.length:Int)-1))<(next1.length:Int))/\
       aH (σ:=Int×(List Bool)×(List Int)) (0,seen,list1) λ⟨x2,seen1,list2⟩ next5=>
        ac (decide (x2<((at' next1 (at' list ((list.length:Int)-1))).length:Int)))
         (((0:Int)<=x2/\x2<((at' next1 (at' list ((list.length:Int)-1))).length:Int))/\
         iS (at' (at' next1 (at' list ((list.length:Int)-1))) x2) λto=>
         ((0:Int)<=to/\to<(seen1.length:Int))/\
         ac (!(at' seen1 to))
          (((0:Int)<=to/\to<(seen1.length:Int))/\
          ((list2++[to]).length*8<=140737488355328)/\
          rng (x2+1)/\
          next5 ((x2+1),(aN seen1 to true),(list2++[to])))
          (rng (x2+1)/\
          next5 ((x2+1),seen1,list2)))
         (next4 (seen1,list2)))
       (((out++[seen]).length*24<=140737488355328)/\
       rng (x1+1)/\
       next3 ((x1+1),(out++[seen]))))
     (Q out))
def dR (c:GChain) (Q:List (List Int)->Prop):Prop:=
 fE c λr=>
 aH (σ:=Int×(List (List Int))) (0,[]) λ⟨x,out⟩ next1=>
  ac (decide (x<(r.length:Int)))
   (((0:Int)<=x/\x<(r.length:Int))/\
   aH (σ:=Bool×Int×(List Int)) (true,0,[]) λ⟨ok,x1,class1⟩ next2=>
    ac (decide (x1<((at' r x).length:Int)))
     (((0:Int)<=x1/\x1<((at' r x).length:Int))/\
     ac (!(at' (at' r x) x1))
      (rng (x1+1)/\
      next2 (ok,(x1+1),class1))
      (bM (α:=Bool) (λnext3=>
       ac ok
        (((0:Int)<=x1/\x1<(r.length:Int))/\
        ((0:Int)<=x/\x<((at' r x1).length:Int))/\
        ac (at' (at' r x1) x)
         (next3 (decide (x<=x1)))
         (next3 false))
        (next3 false))
       λok1=>
       ((class1++[x1]).length*8<=140737488355328)/\
       rng (x1+1)/\
       next2 (ok1,(x1+1),(class1++[x1]))))
     (ac ok
      (((out++[class1]).length*24<=140737488355328)/\
      rng (x+1)/\
      next1 ((x+1),(out++[class1])))
      (rng (x+1)/\
      next1 ((x+1),out))))
   (Q out)
def cE (c:GChain) (Q:List GRat->Option Int->Prop):Prop:=
 eb c λe=>
 ac (isSome e)
  (Q [] e)
  (dR c λl=>
  ac ((l.length:Int) != 1)
   (Q [] (some 16))
   (((0:Int)<=0/\0<(l.length:Int))/\
   aH (σ:=Int×(GMap Int)) (0,(ib:GMap Int)) λ⟨x,x1⟩ next1=>
    ac (decide (x<((at' l 0).length:Int)))
     (((0:Int)<=x/\x<((at' l 0).length:Int))/\
     rng (x+1)/\
     next1 ((x+1),(mput x1 [(at' (at' l 0) x)] x)))
     (fS 24 ((at' l 0).length:Int) ((at' l 0).length:Int)/\
     aH (σ:=Int×(List (List GRat))) (0,(aQ ((at' l 0).length:Int) [])) λ⟨x2,a⟩ next2=>
      ac (decide (x2<((toNat ((at' l 0).length:Int)):Int)))
       (fS 56 ((at' l 0).length:Int) ((at' l 0).length:Int)/\
       ((0:Int)<=x2/\x2<(a.length:Int))/\
       rng (x2+1)/\
       next2 ((x2+1),(aN a x2 (aQ ((at' l 0).length:Int) (⟨false,[],[]⟩:GRat)))))
       (aH (σ:=Int×(List (List GRat))) (0,a) λ⟨x3,a1⟩ next3=>
        ac (decide (x3<(c.V.length:Int)))
         (((0:Int)<=x3/\x3<(c.V.length:Int))/\
         iS (getD (eT x1 [(at' c.V x3).D]) 0) λfrom1=>
         ac (!(isSome (eT x1 [(at' c.V x3).D])))
          (rng (x3+1)/\
          next3 ((x3+1),a1))
          (iS (getD (eT x1 [(at' c.V x3).To]) 0) λto=>
          ((0:Int)<=from1/\from1<(a1.length:Int))/\
          ((0:Int)<=from1/\from1<(a1.length:Int))/\
          ((0:Int)<=from1/\from1<((at' a1 from1).length:Int))/\
          fk (cg (at' (at' a1 from1) from1) ((at' c.V x3).X)) λr=>
          ((0:Int)<=from1/\from1<((at' a1 from1).length:Int))/\
          ((0:Int)<=to/\to<(a1.length:Int))/\
          ((0:Int)<=to/\to<(a1.length:Int))/\
          ((0:Int)<=from1/\from1<((at' (aN a1 from1 (aN (at' a1 from1) from1 r)) to).length:Int))/\
          fk (bu (at' (at' (aN a1 from1 (aN (at' a1 from1) from1 r)) to) from1) ((at' c.V x3).X)) λr1=>
          ((0:Int)<=from1/\from1<((at' (aN a1 from1 (aN (at' a1 from1) from1 r)) to).length:Int))/\
          rng (x3+1)/\
          next3 ((x3+1),(aN (aN a1 from1 (aN (at' a1 from1) from1 r)) to (aN (at' (aN a1 from1 (aN (at' a1 from1) from1 r)) to) from1 r1)))))
         (fS 56 ((at' l 0).length:Int) ((at' l 0).length:Int)/\
         rng (((at' l 0).length:Int)-1)/\
         bW 1 λr2=>
         ((0:Int)<=(((at' l 0).length:Int)-1)/\(((at' l 0).length:Int)-1)<((toNat ((at' l 0).length:Int)):Int))/\
         rng (((at' l 0).length:Int)-1)/\
         ((0:Int)<=(((at' l 0).length:Int)-1)/\(((at' l 0).length:Int)-1)<(a1.length:Int))/\
         aH (σ:=Int×(List (List GRat))) (0,a1) λ⟨x4,a2⟩ next4=>
          ac (decide (x4<((at' a1 (((at' l 0).length:Int)-1)).length:Int)))
           (rng (((at' l 0).length:Int)-1)/\
           ((0:Int)<=(((at' l 0).length:Int)-1)/\(((at' l 0).length:Int)-1)<(a2.length:Int))/\
           fk (bW 1) λr3=>
           ((0:Int)<=x4/\x4<((at' a2 (((at' l 0).length:Int)-1)).length:Int))/\
           rng (x4+1)/\
           next4 ((x4+1),(aN a2 (((at' l 0).length:Int)-1) (aN (at' a2 (((at' l 0).length:Int)-1)) x4 r3))))
           (gr a2 (aN (aQ ((at' l 0).length:Int) (⟨false,[],[]⟩:GRat)) (((at' l 0).length:Int)-1) r2) λr4 r5=>
           ac (isSome r5)
            (Q [] r5)
            (fS 56 c.H c.H/\
            aH (σ:=Int×(List GRat)) (0,(aQ c.H (⟨false,[],[]⟩:GRat))) λ⟨x5,out⟩ next5=>
             ac (decide (x5<((at' l 0).length:Int)))
              (((0:Int)<=x5/\x5<((at' l 0).length:Int))/\
              ((0:Int)<=x5/\x5<(r4.length:Int))/\
              ((0:Int)<=(at' (at' l 0) x5)/\(at' (at' l 0) x5)<(out.length:Int))/\
              rng (x5+1)/\
              next5 ((x5+1),(aN out (at' (at' l 0) x5) (at' r4 x5))))
              (Q out none))))))))
def gg (x:GRat) (Q:Bool->Prop):Prop:=
 dl x λr=>
 Q (!r)
def bj (s:List GRat) (Q:Int->Prop):Prop:=
 aH (σ:=Int) 0 λx next1=>
  ac (decide (x<(s.length:Int)))
   (((0:Int)<=x/\x<(s.length:Int))/\
   gg (at' s x) λr=>
   ac r
    (Q x)
    (rng (x+1)/\
    next1 (x+1)))
   (Q (-1))
def be (s:List GRat) (Q:Bool->Prop):Prop:=
 bj s λr=>
 Q (decide (0<=r))
def eh (c:GChain) (dist:List GRat) (Q:Option Int->Prop):Prop:=
 eb c λe=>
 ac (isSome e)
  (Q e)
  (ac ((dist.length:Int) != c.H)
   (Q (some 11))
   (be dist λr=>
   ac r
    (Q (some 2))
    (Q none)))
def fm (x:GRat) (Q:Bool->Prop):Prop:=
 bh x λr=>
 Q (r != 0)
def bc (s:List GRat) (Q:Int->Prop):Prop:=
 aH (σ:=Int) 0 λx next1=>
  ac (decide (x<(s.length:Int)))
   (((0:Int)<=x/\x<(s.length:Int))/\
   fm (at' s x) λr=>
   ac r
    (Q x)
    (rng (x+1)/\
    next1 (x+1)))
   (Q (-1))
def aY (s:List GRat) (Q:Bool->Prop):Prop:=
 bc s λr=>
 Q (decide (0<=r))
def dg (c:GChain) (dist:List GRat) (Q:Bool->Prop):Prop:=
 fS 56 c.H c.H/\
 aH (σ:=Int×GRat) (0,(⟨false,[],[]⟩:GRat)) λ⟨x,x1⟩ next1=>
  ac (decide (x<(dist.length:Int)))
   (((0:Int)<=x/\x<(dist.length:Int))/\
   bh (at' dist x) λr=>
   ac (decide (r<0))
    (Q false)
    (bu x1 (at' dist x) λr1=>
    rng (x+1)/\
    next1 ((x+1),r1)))
   (aH (σ:=Int×(List GRat)) (0,(aQ c.H (⟨false,[],[]⟩:GRat))) λ⟨x2,net⟩ next2=>
    ac (decide (x2<(c.V.length:Int)))
     (((0:Int)<=x2/\x2<(c.V.length:Int))/\
     ((0:Int)<=(at' c.V x2).D/\(at' c.V x2).D<(dist.length:Int))/\
     fk (cA (at' dist ((at' c.V x2).D)) ((at' c.V x2).X)) λr2=>
     ((0:Int)<=(at' c.V x2).D/\(at' c.V x2).D<(net.length:Int))/\
     fk (cg (at' net ((at' c.V x2).D)) r2) λr3=>
     ((0:Int)<=(at' c.V x2).To/\(at' c.V x2).To<(net.length:Int))/\
     fk (bu (at' net ((at' c.V x2).To)) r2) λr4=>
     ((0:Int)<=(at' c.V x2).D/\(at' c.V x2).D<(net.length:Int))/\
     ((0:Int)<=(at' c.V x2).To/\(at' c.V x2).To<(net.length:Int))/\
     rng (x2+1)/\
     next2 ((x2+1),(aN (aN net ((at' c.V x2).D) r3) ((at' c.V x2).To) r4)))
     (fk (bW 1) λr5=>
     fk (eB x1 r5) λr6=>
     ac (r6 == 0)
      (fk (aY net) λr7=>
      Q (!r7))
      (Q false)))
def eY (c:GChain) (dist:List GRat) (Q:Bool->Option Int->Prop):Prop:=
 eh c dist λe=>
 ac (isSome e)
  (Q false e)
  (dg c dist λr=>
  ac r
   (dR c λr1=>
   Q ((r1.length:Int) == 1) none)
   (Q false none))
def gh (c:GChain) (dist:List GRat) (Q:Option Int->Prop):Prop:=
 eh c dist λe=>
 ac (isSome e)
  (Q e)
  (dg c dist λr=>
  ac (!r)
   (Q (some 15))
   (Q none))
def fV (c:GChain) (dist:List GRat) (Q:GRat->Option Int->Prop):Prop:=
 gh c dist λe=>
 ac (isSome e)
  (Q (⟨false,[],[]⟩:GRat) e)
  (aH (σ:=Int×GRat) (0,(⟨false,[],[]⟩:GRat)) λ⟨x,x1⟩ next1=>
   ac (decide (x<(dist.length:Int)))
    (((0:Int)<=x/\x<(dist.length:Int))/\
    ((0:Int)<=x/\x<(c.B.length:Int))/\
    ac (at' c.B x)
     (bu x1 (at' dist x) λr=>
     rng (x+1)/\
     next1 ((x+1),r))
     (rng (x+1)/\
     next1 ((x+1),x1)))
    (Q x1 none))
def cd:Nat->Int->Int->(List GNode)->Int->(List Int)->(List Bool)->(List Int->List Bool->Prop)->Prop
 | 0,_,_,_,_,_,_,_=>False
 | fu+1,arg,J,w,w1,events,seen,Q=>
  ((0:Int)<=arg/\arg<(seen.length:Int))/\
  ac (at' seen arg)
   (Q events seen)
   (((0:Int)<=arg/\arg<(seen.length:Int))/\
   ac (decide (arg<J))
    (((events++[arg]).length*8<=140737488355328)/\
    Q (events++[arg]) (aN seen arg true))
    (rng (arg-J)/\
    ((0:Int)<=(arg-J)/\(arg-J)<(w.length:Int))/\
    aH (σ:=Int×(List Int)×(List Bool)) (0,events,(aN seen arg true)) λ⟨x,x1,x2⟩ next1=>
     ac (decide (x<(((at' w (arg-J)).M).length:Int)))
      (((0:Int)<=x/\x<(((at' w (arg-J)).M).length:Int))/\
      cd fu (at' ((at' w (arg-J)).M) x) J w w1 x1 x2 λu u1=>
      u1.length=x2.length/\
      rng (x+1)/\
      next1 ((x+1),u,u1))
      (Q x1 x2)))
def my (f:GFormula) (Q:List Int->List Bool->Prop):Prop:=
 rng (f.A+(f.N.length:Int))/\
 fS 1 (f.A+(f.N.length:Int)) (f.A+(f.N.length:Int))/\
 ∃fu,cd fu f.Z f.A f.N f.Z ([]:List Int) (aQ (f.A+(f.N.length:Int)) false) λu u1=>
 u1.length=(aQ (f.A+(f.N.length:Int)) false).length/\
 aH (σ:=Int×(List Int)) (0,u) λ⟨x,x1⟩ next1=>
  ac (decide (x<f.A))
   (((0:Int)<=x/\x<(u1.length:Int))/\
   ac (!(at' u1 x))
    (((x1++[x]).length*8<=140737488355328)/\
    rng (x+1)/\
    next1 ((x+1),(x1++[x])))
    (rng (x+1)/\
    next1 ((x+1),x1)))
   (Q x1 u1)
def mz (f:GFormula) (Q:List Int->Option Int->Prop):Prop:=
 db f λerr=>
 ac (isSome err)
  (Q [] err)
  (my f λr _=>
  Q r none)
def mA (o:List Int) (vars:Int) (Q:Option Int->Prop):Prop:=
 bM (α:=Bool) (λnext3=>
  ac (decide (vars<0))
   (next3 true)
   (next3 (decide (24<vars))))
  λx=>
  ac x
   (Q (some 3))
   (ac ((o.length:Int) != vars)
    (Q (some 11))
    (fS 1 vars vars/\
    aH (σ:=Int×(List Bool)) (0,(aQ vars false)) λ⟨x1,seen⟩ next1=>
     ac (decide (x1<(o.length:Int)))
      (((0:Int)<=x1/\x1<(o.length:Int))/\
      bM (α:=Bool) (λnext2=>
       ac (decide ((at' o x1)<0))
        (next2 true)
        (next2 (decide (vars<=(at' o x1)))))
       λx2=>
       ac x2
        (Q (some 3))
        (((0:Int)<=(at' o x1)/\(at' o x1)<(seen.length:Int))/\
        ac (at' seen (at' o x1))
         (Q (some 6))
         (((0:Int)<=(at' o x1)/\(at' o x1)<(seen.length:Int))/\
         rng (x1+1)/\
         next1 ((x1+1),(aN seen (at' o x1) true)))))
      (Q none)))
def iK (order:List Int) (Q:List Int->List Int->GMap Int->GMap Int->Prop):Prop:=
 (order.length*8<=140737488355328)/\
 fS 8 (order.length:Int) (order.length:Int)/\
 aH (σ:=Int×(List Int)) (0,(aQ (order.length:Int) 0)) λ⟨x,x1⟩ next1=>
  ac (decide (x<(order.length:Int)))
   (((0:Int)<=x/\x<(order.length:Int))/\
   ((0:Int)<=(at' order x)/\(at' order x)<(x1.length:Int))/\
   rng (x+1)/\
   next1 ((x+1),(aN x1 (at' order x) x)))
   (Q order x1 (ib:GMap Int) (ib:GMap Int))
def ck (v:Int) (lo:Int) (hi:Int) (_order:List Int) (_place:List Int) (nodes:List GDNode) (unique:GMap Int) (_memo:GMap Int) (Q:List GDNode->GMap Int->Int->Prop):Prop:=
 ac (lo == hi)
  (Q nodes unique lo)
  (ac (!(isSome (eT unique [v,lo,hi])))
   (rng (2+(nodes.length:Int))/\
   ((nodes++[(⟨v,lo,hi⟩:GDNode)]).length*24<=140737488355328)/\
   Q (nodes++[(⟨v,lo,hi⟩:GDNode)]) (mput unique [v,lo,hi] (2+(nodes.length:Int))) (2+(nodes.length:Int)))
   (Q nodes unique (getD (eT unique [v,lo,hi]) 0)))
def cJ (i:Int) (order:List Int) (place:List Int) (nodes:List GDNode) (unique:GMap Int) (memo:GMap Int) (Q:List GDNode->GMap Int->Int->Prop):Prop:=
 ck i 0 1 order place nodes unique memo λu u1 r=>
 Q u u1 r
def a_ (r:Int) (order:List Int) (place:List Int) (nodes:List GDNode) (_unique:GMap Int) (_memo:GMap Int) (Q:Int->Prop):Prop:=
 ac (decide (r<2))
  (Q (order.length:Int))
  (rng (r-2)/\
  ((0:Int)<=(r-2)/\(r-2)<(nodes.length:Int))/\
  ((0:Int)<=(at' nodes (r-2)).Y/\(at' nodes (r-2)).Y<(place.length:Int))/\
  Q (at' place ((at' nodes (r-2)).Y)))
def br (r:Int) (level:Int) (order:List Int) (place:List Int) (nodes:List GDNode) (unique:GMap Int) (memo:GMap Int) (Q:Int->Int->Prop):Prop:=
 a_ r order place nodes unique memo λr1=>
 ac (r1 != level)
  (Q r r)
  (rng (r-2)/\
  ((0:Int)<=(r-2)/\(r-2)<(nodes.length:Int))/\
  Q ((at' nodes (r-2)).E) ((at' nodes (r-2)).I))
def an:Nat->Int->Int->Int->(List Int)->(List Int)->(List GDNode)->(GMap Int)->(GMap Int)->(List GDNode->GMap Int->GMap Int->Int->Prop)->Prop
 | 0,_,_,_,_,_,_,_,_,_=>False
 | fu+1,c,a,b,order,place,nodes,unique,memo,Q=>
  bM (α:=Unit) (λnext1=>
   bM (α:=Bool) (λnext2=>
    ac (c == 1)
     (next2 true)
     (next2 (a == b)))
    λx=>
    ac x
     (Q nodes unique memo a)
     (ac (c == 0)
      (Q nodes unique memo b)
      (ac (a == 1)
       (ac (b == 0)
        (Q nodes unique memo c)
        (next1 ()))
       (next1 ()))))
   λ_=>
   ac (isSome (eT memo [c,a,b]))
    (Q nodes unique memo (getD (eT memo [c,a,b]) 0))
    (a_ c order place nodes unique memo λr=>
    a_ a order place nodes unique memo λr1=>
    a_ b order place nodes unique memo λr2=>
    br c (min (min r r1) r2) order place nodes unique memo λr3 r4=>
    br a (min (min r r1) r2) order place nodes unique memo λr5 r6=>
    br b (min (min r r1) r2) order place nodes unique memo λr7 r8=>
    an fu r3 r5 r7 order place nodes unique memo λu u1 u2 lo=>
    an fu r4 r6 r8 order place u u1 u2 λu3 u4 u5 hi=>
    ((0:Int)<=(min (min r r1) r2)/\(min (min r r1) r2)<(order.length:Int))/\
    ck (at' order (min (min r r1) r2)) lo hi order place u3 u4 u5 λu6 u7 r9=>
    Q u6 u7 (mput u5 [c,a,b] r9) r9)
def dw (a:Int) (order:List Int) (place:List Int) (nodes:List GDNode) (unique:GMap Int) (memo:GMap Int) (Q:List GDNode->GMap Int->GMap Int->Int->Prop):Prop:=
 ∃fu,an fu a 0 1 order place nodes unique memo λu u1 u2 r=>
 Q u u1 u2 r
def dx (a:Int) (b:Int) (order:List Int) (place:List Int) (nodes:List GDNode) (unique:GMap Int) (memo:GMap Int) (Q:List GDNode->GMap Int->GMap Int->Int->Prop):Prop:=
 ∃fu,an fu a b 0 order place nodes unique memo λu u1 u2 r=>
 Q u u1 u2 r
def dK (a:Int) (b:Int) (order:List Int) (place:List Int) (nodes:List GDNode) (unique:GMap Int) (memo:GMap Int) (Q:List GDNode->GMap Int->GMap Int->Int->Prop):Prop:=
 ∃fu,an fu a 1 b order place nodes unique memo λu u1 u2 r=>
 Q u u1 u2 r
def dv (a:Int) (b:Int) (order:List Int) (place:List Int) (nodes:List GDNode) (unique:GMap Int) (memo:GMap Int) (Q:List GDNode->GMap Int->GMap Int->Int->Prop):Prop:=
 dw b order place nodes unique memo λu u1 u2 r=>
 ∃fu,an fu a r b order place u u1 u2 λu3 u4 u5 r1=>
 Q u3 u4 u5 r1
def aR:Nat->Int->Int->(GMap Bool)->(List Int)->(List Int)->(List GDNode)->(GMap Int)->(GMap Int)->(GMap Bool->Prop)->Prop
 | 0,_,_,_,_,_,_,_,_,_=>False
 | fu+1,r,u,u1,order,place,nodes,unique,memo,Q=>
  ac (decide (r<2))
   (Q u1)
   (ac (getD (eT u1 [r]) false)
    (Q u1)
    (ac (decide (u<((GMap.n u1:Nat):Int)))
     (Q u1)
     (rng (r-2)/\
     ((0:Int)<=(r-2)/\(r-2)<(nodes.length:Int))/\
     ∃u2,(aR fu ((at' nodes (r-2)).E) u (mput u1 [r] true) order place nodes unique memo λy1=>y1=u2)/\
     rng (r-2)/\
     ((0:Int)<=(r-2)/\(r-2)<(nodes.length:Int))/\
     ∃u3,(aR fu ((at' nodes (r-2)).I) u u2 order place nodes unique memo λy2=>y2=u3)/\
     Q u3)))
def bA (root:Int) (most:Int) (order:List Int) (place:List Int) (nodes:List GDNode) (unique:GMap Int) (memo:GMap Int) (Q:Bool->Prop):Prop:=
 ∃fu,aR fu root most (ib:GMap Bool) order place nodes unique memo λu=>
 Q (decide (((GMap.n u:Nat):Int)<=most))
def aT:Nat->Int->Int->(GMap Int)->(List Int)->(List GDNode)->(List Int)->(List Int)->(List GDNode)->(GMap Int)->(GMap Int)->(GMap Int->List GDNode->Int->Prop)->Prop
 | 0,_,_,_,_,_,_,_,_,_,_,_=>False
 | fu+1,r,G,u,T,N,order,place,nodes,unique,memo,Q=>
  ac (isSome (eT u [r]))
   (Q u N (getD (eT u [r]) 0))
   (rng (r-2)/\
   ((0:Int)<=(r-2)/\(r-2)<(nodes.length:Int))/\
   aT fu ((at' nodes (r-2)).E) G u T N order place nodes unique memo λu1 u2 lo=>
   aT fu ((at' nodes (r-2)).I) G u1 T u2 order place nodes unique memo λu3 u4 hi1=>
   ((u4++[(⟨(at' nodes (r-2)).Y,lo,hi1⟩:GDNode)]).length*24<=140737488355328)/\
   rng (1+((u4++[(⟨(at' nodes (r-2)).Y,lo,hi1⟩:GDNode)]).length:Int))/\
   Q (mput u3 [r] (1+((u4++[(⟨(at' nodes (r-2)).Y,lo,hi1⟩:GDNode)]).length:Int))) (u4++[(⟨(at' nodes (r-2)).Y,lo,hi1⟩:GDNode)]) (getD (eT (mput u3 [r] (1+((u4++[(⟨(at' nodes (r-2)).Y,lo,hi1⟩:GDNode)]).length:Int))) [r]) 0))
def cI (root:Int) (order:List Int) (place:List Int) (nodes:List GDNode) (unique:GMap Int) (memo:GMap Int) (Q:GDiagram->Prop):Prop:=
 (order.length*8<=140737488355328)/\
 ∃fu,aT fu root 0 (mput (mput (ib:GMap Int) [0] 0) [1] 1) order ([]:List GDNode) order place nodes unique memo λ_ u1 r=>
 Q (⟨order,u1,r⟩:GDiagram)
def mb (refs:List Int) (first:Int) (order:List Int) (place:List Int) (nodes:List GDNode) (unique:GMap Int) (memo:GMap Int) (Q:List GDNode->GMap Int->GMap Int->Int->Prop):Prop:=
 aH (σ:=Int×Int×(List GDNode)×(GMap Int)×(GMap Int)) (first,0,nodes,unique,memo) λ⟨first1,x,x1,x2,x3⟩ next1=>
  ac (decide (x<(refs.length:Int)))
   (((0:Int)<=x/\x<(refs.length:Int))/\
   dx first1 (at' refs x) order place x1 x2 x3 λu u1 u2 first2=>
   rng (x+1)/\
   next1 (first2,(x+1),u,u1,u2))
   (Q x1 x2 x3 first1)
def lG (refs:List Int) (first:Int) (order:List Int) (place:List Int) (nodes:List GDNode) (unique:GMap Int) (memo:GMap Int) (Q:List GDNode->GMap Int->GMap Int->Int->Prop):Prop:=
 aH (σ:=Int×Int×(List GDNode)×(GMap Int)×(GMap Int)) (first,0,nodes,unique,memo) λ⟨first1,x,x1,x2,x3⟩ next1=>
  ac (decide (x<(refs.length:Int)))
   (((0:Int)<=x/\x<(refs.length:Int))/\
   dK first1 (at' refs x) order place x1 x2 x3 λu u1 u2 first2=>
   rng (x+1)/\
   next1 (first2,(x+1),u,u1,u2))
   (Q x1 x2 x3 first1)
def lF (refs:List Int) (first:Int) (order:List Int) (place:List Int) (nodes:List GDNode) (unique:GMap Int) (memo:GMap Int) (Q:List GDNode->GMap Int->GMap Int->Int->Prop):Prop:=
 aH (σ:=Int×Int×(List GDNode)×(GMap Int)×(GMap Int)) (first,0,nodes,unique,memo) λ⟨first1,x,x1,x2,x3⟩ next1=>
  ac (decide (x<(refs.length:Int)))
   (((0:Int)<=x/\x<(refs.length:Int))/\
   dv first1 (at' refs x) order place x1 x2 x3 λu u1 u2 first2=>
   rng (x+1)/\
   next1 (first2,(x+1),u,u1,u2))
   (Q x1 x2 x3 first1)
def iH (refs:List Int) (k6:Int) (order:List Int) (place:List Int) (nodes:List GDNode) (unique:GMap Int) (memo:GMap Int) (Q:List GDNode->GMap Int->GMap Int->Int->Prop):Prop:=
 rng (k6+1)/\
 fS 8 (k6+1) (k6+1)/\
 ((0:Int)<=0/\0<((toNat (k6+1)):Int))/\
 aH (σ:=Int×(List Int)×(List GDNode)×(GMap Int)×(GMap Int)) (0,(aN (aQ (k6+1) 0) 0 1),nodes,unique,memo) λ⟨x,need,x1,x2,x3⟩ next1=>
  ac (decide (x<(refs.length:Int)))
   (((0:Int)<=x/\x<(refs.length:Int))/\
   aH (σ:=Int×(List Int)×(List GDNode)×(GMap Int)×(GMap Int)) (k6,need,x1,x2,x3) λ⟨j,need1,x4,x5,x6⟩ next2=>
    ac (decide (0<j))
     (rng (j-1)/\
     ((0:Int)<=(j-1)/\(j-1)<(need1.length:Int))/\
     ((0:Int)<=j/\j<(need1.length:Int))/\
     ∃u u1 u2 r,(∃fu,an fu (at' refs x) (at' need1 (j-1)) (at' need1 j) order place x4 x5 x6 λy1 y2 y3 y4=>y1=u/\y2=u1/\y3=u2/\y4=r)/\
     ((0:Int)<=j/\j<(need1.length:Int))/\
     rng (j-1)/\
     next2 ((j-1),(aN need1 j r),u,u1,u2))
     (rng (x+1)/\
     next1 ((x+1),need1,x4,x5,x6)))
   (((0:Int)<=k6/\k6<(need.length:Int))/\
   Q x1 x2 x3 (at' need k6))
def fY (x:GNode) (refs:List Int) (order:List Int) (place:List Int) (nodes:List GDNode) (unique:GMap Int) (memo:GMap Int) (Q:List GDNode->GMap Int->GMap Int->Int->Prop):Prop:=
 ac (x.F == 0)
  (Q nodes unique memo x.K)
  (ac (x.F == 1)
   (((0:Int)<=0/\0<(refs.length:Int))/\
   dw (at' refs 0) order place nodes unique memo λu u1 u2 r=>
   Q u u1 u2 r)
   (ac (x.F == 2)
    (mb refs 1 order place nodes unique memo λu3 u4 u5 r1=>
    Q u3 u4 u5 r1)
    (ac (x.F == 3)
     (lG refs 0 order place nodes unique memo λu6 u7 u8 r2=>
     Q u6 u7 u8 r2)
     (ac (x.F == 5)
      (lF refs 0 order place nodes unique memo λu9 u10 u11 r3=>
      Q u9 u10 u11 r3)
      (iH refs x.K order place nodes unique memo λu12 u13 u14 r4=>
      Q u12 u13 u14 r4)))))
def fN (f:GFormula) (o:List Int) (Q:GDiagram->Option Int->Prop):Prop:=
 lD f λr _ r2=>
 ac (isSome r2)
  (Q (⟨[],[],0⟩:GDiagram) r2)
  (mA o f.A λerr=>
  ac (isSome err)
   (Q (⟨[],[],0⟩:GDiagram) err)
   (bM (α:=GFormula) (λnext4=>
    ac (decide (0<r))
     (lz f λr7 r8=>
     ac (isSome r8)
      (Q (⟨[],[],0⟩:GDiagram) r8)
      (next4 r7))
     (next4 (⟨f.A,[],f.Z⟩:GFormula)))
    λx=>
    iK o λorder place unique memo=>
    rng (x.A+(x.N.length:Int))/\
    fS 8 (x.A+(x.N.length:Int)) (x.A+(x.N.length:Int))/\
    aH (σ:=Int×(List Int)×(GMap Int)×(List GDNode)) (0,(aQ (x.A+(x.N.length:Int)) 0),unique,[]) λ⟨x1,refs,x2,x3⟩ next1=>
     ac (decide (x1<x.A))
      (cJ x1 order place x3 x2 memo λu u1 r3=>
      ((0:Int)<=x1/\x1<(refs.length:Int))/\
      rng (x1+1)/\
      next1 ((x1+1),(aN refs x1 r3),u1,u))
      (aH (σ:=Int×(List Int)×(GMap Int)×(GMap Int)×(List GDNode)) (0,refs,x2,memo,x3) λ⟨x4,refs1,x5,x6,x7⟩ next2=>
       ac (decide (x4<(x.N.length:Int)))
        (((0:Int)<=x4/\x4<(x.N.length:Int))/\
        aH (σ:=Int×(List Int)) (0,[]) λ⟨x8,args⟩ next3=>
         ac (decide (x8<(((at' x.N x4).M).length:Int)))
          (((0:Int)<=x8/\x8<(((at' x.N x4).M).length:Int))/\
          ((0:Int)<=(at' ((at' x.N x4).M) x8)/\(at' ((at' x.N x4).M) x8)<(refs1.length:Int))/\
          ((args++[(at' refs1 (at' ((at' x.N x4).M) x8))]).length*8<=140737488355328)/\
          rng (x8+1)/\
          next3 ((x8+1),(args++[(at' refs1 (at' ((at' x.N x4).M) x8))])))
          (rng (x.A+x4)/\
          ∃u2 u3 u4 r4,(fY (at' x.N x4) args order place x7 x5 x6 λy1 y2 y3 y4=>y1=u2/\y2=u3/\y3=u4/\y4=r4)/\
          ((0:Int)<=(x.A+x4)/\(x.A+x4)<(refs1.length:Int))/\
          rng (x.A+x4)/\
          ((0:Int)<=(x.A+x4)/\(x.A+x4)<(refs1.length:Int))/\
          bA (at' (aN refs1 (x.A+x4) r4) (x.A+x4)) 4096 order place u2 u3 u4 λr5=>
          ac (!r5)
           (Q (⟨[],[],0⟩:GDiagram) (some 4))
           (rng (x4+1)/\
           next2 ((x4+1),(aN refs1 (x.A+x4) r4),u3,u4,u2))))
        (((0:Int)<=x.Z/\x.Z<(refs1.length:Int))/\
        cI (at' refs1 x.Z) order place x7 x5 x6 λr6=>
        Q r6 none))))
def lT (x:GRat) (Q:Bool->Prop):Prop:=
 jW x λr=>
 Q (!r)
def bt (s:List GRat) (Q:Int->Prop):Prop:=
 aH (σ:=Int) 0 λx next1=>
  ac (decide (x<(s.length:Int)))
   (((0:Int)<=x/\x<(s.length:Int))/\
   lT (at' s x) λr=>
   ac r
    (Q x)
    (rng (x+1)/\
    next1 (x+1)))
   (Q (-1))
def bm (s:List GRat) (Q:Bool->Prop):Prop:=
 bt s λr=>
 Q (decide (0<=r))
def jT (p:List GRat) (vars:Int) (Q:Option Int->Prop):Prop:=
 ac ((p.length:Int) != vars)
  (Q (some 11))
  (bm p λr=>
  ac r
   (Q (some 3))
   (Q none))
def nt (v:List GRat) (r:Int) (Q:GRat->Prop):Prop:=
 ac (decide (r<2))
  (bW r λr1=>
  Q r1)
  (rng (r-2)/\
  ((0:Int)<=(r-2)/\(r-2)<(v.length:Int))/\
  Q (at' v (r-2)))
def jS (r:Int) (v:List GRat) (Q:GRat->Prop):Prop:=
 ac (decide (r<2))
  (bW r λr1=>
  Q r1)
  (rng (r-2)/\
  ((0:Int)<=(r-2)/\(r-2)<(v.length:Int))/\
  Q (at' v (r-2)))
def iy (n:GDNode) (p:List GRat) (v:List GRat) (Q:GRat->Prop):Prop:=
 ((0:Int)<=n.Y/\n.Y<(p.length:Int))/\
 fk (bW 1) λr=>
 fk (cg r (at' p n.Y)) λr1=>
 ∃r2,(jS n.E v λy1=>y1=r2)/\
 fk (cA r1 r2) λr3=>
 ∃r4,(jS n.I v λy2=>y2=r4)/\
 fk (cA (at' p n.Y) r4) λr5=>
 fk (bu r3 r5) λr6=>
 Q r6
def jc (d:GDiagram) (p:List GRat) (Q:List GRat->Prop):Prop:=
 fS 56 0 (d.N.length:Int)/\
 aH (σ:=Int×(List GRat)) (0,(aQ 0 (⟨false,[],[]⟩:GRat))) λ⟨x,v⟩ next1=>
  ac (decide (x<(d.N.length:Int)))
   (((0:Int)<=x/\x<(d.N.length:Int))/\
   iy (at' d.N x) p v λr=>
   ((v++[r]).length*56<=140737488355328)/\
   rng (x+1)/\
   next1 ((x+1),(v++[r])))
   (Q v)
def mh (f:GFormula) (p:List GRat) (Q:GRat->Option Int->Prop):Prop:=
 db f λerr=>
 ac (isSome err)
  (Q (⟨false,[],[]⟩:GRat) err)
  (jT p f.A λerr1=>
  ac (isSome err1)
   (Q (⟨false,[],[]⟩:GRat) err1)
   (mz f λr r1=>
   ac (isSome r1)
    (Q (⟨false,[],[]⟩:GRat) r1)
    (fN f r λr2 r3=>
    ac (isSome r3)
     (Q (⟨false,[],[]⟩:GRat) r3)
     (fk (jc r2 p) λr4=>
     fk (nt r4 r2.G) λr5=>
     Q r5 none))))
def jB (c:GChain) (Q:List Bool->Option Int->Prop):Prop:=
 eb c λe=>
 ac (isSome e)
  (Q [] e)
  (fS 1 c.H c.H/\
  ((0:Int)<=c.O/\c.O<(c.B.length:Int))/\
  ((0:Int)<=c.O/\c.O<((toNat c.H):Int))/\
  aH (σ:=Bool×(List Bool)) (true,(aN (aQ c.H false) c.O (!(at' c.B c.O)))) λ⟨changed,out⟩ next1=>
   ac changed
    (aH (σ:=Bool×Int×(List Bool)) (false,0,out) λ⟨changed1,x,out1⟩ next2=>
     ac (decide (x<(c.V.length:Int)))
      (((0:Int)<=x/\x<(c.V.length:Int))/\
      bM (α:=Bool) (λnext3=>
       ((0:Int)<=(at' c.V x).D/\(at' c.V x).D<(out1.length:Int))/\
       ac (at' out1 ((at' c.V x).D))
        (((0:Int)<=(at' c.V x).To/\(at' c.V x).To<(out1.length:Int))/\
        ac (!(at' out1 ((at' c.V x).To)))
         (((0:Int)<=(at' c.V x).To/\(at' c.V x).To<(c.B.length:Int))/\
         next3 (!(at' c.B ((at' c.V x).To))))
         (next3 false))
        (next3 false))
       λx1=>
       ac x1
        (((0:Int)<=(at' c.V x).To/\(at' c.V x).To<(out1.length:Int))/\
        rng (x+1)/\
        next2 (true,(x+1),(aN out1 ((at' c.V x).To) true)))
        (rng (x+1)/\
        next2 (changed1,(x+1),out1)))
      (next1 (changed1,out1)))
    (ep c.B λends=>
    aH (σ:=Bool×(List Bool)) (true,ends) λ⟨changed2,ends1⟩ next4=>
     ac changed2
      (aH (σ:=Bool×Int×(List Bool)) (false,0,ends1) λ⟨changed3,x2,ends2⟩ next5=>
       ac (decide (x2<(c.V.length:Int)))
        (((0:Int)<=x2/\x2<(c.V.length:Int))/\
        bM (α:=Bool) (λnext6=>
         ((0:Int)<=(at' c.V x2).To/\(at' c.V x2).To<(ends2.length:Int))/\
         ac (at' ends2 ((at' c.V x2).To))
          (((0:Int)<=(at' c.V x2).D/\(at' c.V x2).D<(ends2.length:Int))/\
          next6 (!(at' ends2 ((at' c.V x2).D))))
          (next6 false))
         λx3=>
         ac x3
          (((0:Int)<=(at' c.V x2).D/\(at' c.V x2).D<(ends2.length:Int))/\
          rng (x2+1)/\
          next5 (true,(x2+1),(aN ends2 ((at' c.V x2).D) true)))
          (rng (x2+1)/\
          next5 (changed3,(x2+1),ends2)))
        (next4 (changed3,ends2)))
      (aH (σ:=Int) 0 λx4 next7=>
       ac (decide (x4<(out.length:Int)))
        (((0:Int)<=x4/\x4<(out.length:Int))/\
        bM (α:=Bool) (λnext8=>
         ac (at' out x4)
          (((0:Int)<=x4/\x4<(ends1.length:Int))/\
          next8 (!(at' ends1 x4)))
          (next8 false))
         λx5=>
         ac x5
          (Q [] (some 17))
          (rng (x4+1)/\
          next7 (x4+1)))
        (Q out none))))
def hZ (c:GChain) (l:List Bool) (back:Bool) (Q:List Int->List (List GRat)->Prop):Prop:=
 fS 8 (l.length:Int) (l.length:Int)/\
 aH (σ:=Int×(List Int)×(List Int)) (0,(aQ (l.length:Int) 0),[]) λ⟨x,place,states⟩ next1=>
  ac (decide (x<(l.length:Int)))
   (((0:Int)<=x/\x<(l.length:Int))/\
   ac (at' l x)
    (((0:Int)<=x/\x<(place.length:Int))/\
    ((states++[x]).length*8<=140737488355328)/\
    rng (x+1)/\
    next1 ((x+1),(aN place x (states.length:Int)),(states++[x])))
    (rng (x+1)/\
    next1 ((x+1),place,states)))
   (fS 24 (states.length:Int) (states.length:Int)/\
   aH (σ:=Int×(List (List GRat))) (0,(aQ (states.length:Int) [])) λ⟨x1,a⟩ next2=>
    ac (decide (x1<((toNat (states.length:Int)):Int)))
     (fS 56 (states.length:Int) (states.length:Int)/\
     ((0:Int)<=x1/\x1<(a.length:Int))/\
     rng (x1+1)/\
     next2 ((x1+1),(aN a x1 (aQ (states.length:Int) (⟨false,[],[]⟩:GRat)))))
     (aH (σ:=Int×(List (List GRat))) (0,a) λ⟨x2,a1⟩ next3=>
      ac (decide (x2<(c.V.length:Int)))
       (((0:Int)<=x2/\x2<(c.V.length:Int))/\
       ((0:Int)<=(at' c.V x2).D/\(at' c.V x2).D<(l.length:Int))/\
       ac (!(at' l ((at' c.V x2).D)))
        (rng (x2+1)/\
        next3 ((x2+1),a1))
        (((0:Int)<=(at' c.V x2).D/\(at' c.V x2).D<(place.length:Int))/\
        ((0:Int)<=(at' place ((at' c.V x2).D))/\(at' place ((at' c.V x2).D))<(a1.length:Int))/\
        ((0:Int)<=(at' place ((at' c.V x2).D))/\(at' place ((at' c.V x2).D))<(a1.length:Int))/\
        ((0:Int)<=(at' place ((at' c.V x2).D))/\(at' place ((at' c.V x2).D))<((at' a1 (at' place ((at' c.V x2).D))).length:Int))/\
        fk (bu (at' (at' a1 (at' place ((at' c.V x2).D))) (at' place ((at' c.V x2).D))) ((at' c.V x2).X)) λr=>
        ((0:Int)<=(at' place ((at' c.V x2).D))/\(at' place ((at' c.V x2).D))<((at' a1 (at' place ((at' c.V x2).D))).length:Int))/\
        ((0:Int)<=(at' c.V x2).To/\(at' c.V x2).To<(l.length:Int))/\
        ac (!(at' l ((at' c.V x2).To)))
         (rng (x2+1)/\
         next3 ((x2+1),(aN a1 (at' place ((at' c.V x2).D)) (aN (at' a1 (at' place ((at' c.V x2).D))) (at' place ((at' c.V x2).D)) r))))
         (((0:Int)<=(at' c.V x2).To/\(at' c.V x2).To<(place.length:Int))/\
         bM (α:=Int×Int×(List (List GRat))) (λnext4=>
          ac back
           (next4 ((at' place ((at' c.V x2).To)),(at' place ((at' c.V x2).D)),(aN a1 (at' place ((at' c.V x2).D)) (aN (at' a1 (at' place ((at' c.V x2).D))) (at' place ((at' c.V x2).D)) r))))
           (next4 ((at' place ((at' c.V x2).D)),(at' place ((at' c.V x2).To)),(aN a1 (at' place ((at' c.V x2).D)) (aN (at' a1 (at' place ((at' c.V x2).D))) (at' place ((at' c.V x2).D)) r)))))
          λ⟨i,k1,a2⟩=>
          ((0:Int)<=i/\i<(a2.length:Int))/\
          ((0:Int)<=i/\i<(a2.length:Int))/\
          ((0:Int)<=k1/\k1<((at' a2 i).length:Int))/\
          fk (cg (at' (at' a2 i) k1) ((at' c.V x2).X)) λr1=>
          ((0:Int)<=k1/\k1<((at' a2 i).length:Int))/\
          rng (x2+1)/\
          next3 ((x2+1),(aN a2 i (aN (at' a2 i) k1 r1))))))
       (Q states a1)))
def lN (c:GChain) (back:Bool) (Q:List Bool->List GRat->Option Int->Prop):Prop:=
 jB c λr r1=>
 ac (isSome r1)
  (Q [] [] r1)
  (fS 56 c.H c.H/\
  hZ c r back λr2 r3=>
  ac ((r2.length:Int) == 0)
   (Q r (aQ c.H (⟨false,[],[]⟩:GRat)) none)
   (fS 56 (r2.length:Int) (r2.length:Int)/\
   aH (σ:=Int×(List GRat)) (0,(aQ (r2.length:Int) (⟨false,[],[]⟩:GRat))) λ⟨x,b⟩ next1=>
    ac (decide (x<(r2.length:Int)))
     (((0:Int)<=x/\x<(r2.length:Int))/\
     bM (α:=Bool) (λnext2=>
      ac (!back)
       (next2 true)
       (next2 ((at' r2 x) == c.O)))
      λx1=>
      ac x1
       (bW 1 λr4=>
       ((0:Int)<=x/\x<(b.length:Int))/\
       rng (x+1)/\
       next1 ((x+1),(aN b x r4)))
       (rng (x+1)/\
       next1 ((x+1),b)))
     (gr r3 b λr5 r6=>
     ac (isSome r6)
      (Q [] [] r6)
      (aH (σ:=Int×(List GRat)) (0,(aQ c.H (⟨false,[],[]⟩:GRat))) λ⟨x2,out⟩ next3=>
       ac (decide (x2<(r2.length:Int)))
        (((0:Int)<=x2/\x2<(r2.length:Int))/\
        ((0:Int)<=x2/\x2<(r5.length:Int))/\
        ((0:Int)<=(at' r2 x2)/\(at' r2 x2)<(out.length:Int))/\
        rng (x2+1)/\
        next3 ((x2+1),(aN out (at' r2 x2) (at' r5 x2))))
        (Q r out none)))))
def iP (c:GChain) (Q:List GRat->Option Int->Prop):Prop:=
 lN c false λ_ r1 r2=>
 Q r1 r2
def qI:ByteArray:=⟨#[49]⟩
def xK:ByteArray:=⟨#[49,47,52]⟩
def kS (Q:GChain->Prop):Prop:=
 kY 1 λr=>
 kY 3 λr1=>
 Q (⟨2,0,[(⟨0,1,(⟨r.U,r.L,r.W⟩:GRat)⟩:GMove),(⟨1,0,(⟨r1.U,r1.L,r1.W⟩:GRat)⟩:GMove)],[false,true]⟩:GChain)
def fP (Q:Bool->Prop):Prop:=
 kS λr=>
 cE r λr1 r2=>
 kS λr3=>
 iP r3 λr4 r5=>
 ac (isNone r2)
  (ac (isNone r5)
   (ac ((r1.length:Int) == 2)
    (ac ((r4.length:Int) == 2)
     (((0:Int)<=1/\1<(r1.length:Int))/\
     jV (at' r1 1) λr6=>
     ac (r6.toList == xK.toList)
      (((0:Int)<=0/\0<(r4.length:Int))/\
      jV (at' r4 0) λr7=>
      Q (r7.toList == qI.toList))
      (Q false))
     (Q false))
    (Q false))
   (Q false))
  (Q false)
def ot (f:GFormula) (Q:Bool->Prop):Prop:=
 aH (σ:=Int×Int) (0,0) λ⟨n,x⟩ next1=>
  ac (decide (x<(f.N.length:Int)))
   (((0:Int)<=x/\x<(f.N.length:Int))/\
   rng (n+(((at' f.N x).M).length:Int))/\
   rng (x+1)/\
   next1 ((n+(((at' f.N x).M).length:Int)),(x+1)))
   (ac (decide (8<f.A))
    (Q true)
    (ac (decide (16<(f.N.length:Int)))
     (Q true)
     (Q (decide (60<n)))))
def jE (f:GFormula) (Q:Bool->Prop):Prop:=
 ot f λr=>
 ac (!r)
  (mr f λr1=>
  Q (r1 == 0))
  (Q false)
def ia (f:GFormula) (fail:List GRat) (repair:List GRat) (Q:Bool->Prop):Prop:=
 bM (α:=Bool) (λnext4=>
  fP λr20=>
  ac (!r20)
   (next4 true)
   (jE f λr21=>
   ac (!r21)
    (next4 true)
    (ac (decide (f.A<1))
     (next4 true)
     (ac (decide (4<f.A))
      (next4 true)
      (ac ((fail.length:Int) != f.A)
       (next4 true)
       (next4 ((repair.length:Int) != f.A)))))))
  λx=>
  ac x
   (fP λr=>
   Q r)
   (((([]:List GRat)++fail).length*56<=140737488355328)/\
   (((([]:List GRat)++fail)++repair).length*56<=140737488355328)/\
   aH (σ:=Int) 0 λx1 next1=>
    ac (decide (x1<(((([]:List GRat)++fail)++repair).length:Int)))
     (((0:Int)<=x1/\x1<(((([]:List GRat)++fail)++repair).length:Int))/\
     jr (at' ((([]:List GRat)++fail)++repair) x1) λr1=>
     ac (!r1)
      (Q true)
      (ny (at' ((([]:List GRat)++fail)++repair) x1) λr2=>
      ac (decide (r2<0))
       (Q true)
       (ac (decide (1<(((at' ((([]:List GRat)++fail)++repair) x1).L).length:Int)))
        (Q true)
        (ac (decide (1<(((at' ((([]:List GRat)++fail)++repair) x1).W).length:Int)))
         (Q true)
         (ac ((((at' ((([]:List GRat)++fail)++repair) x1).L).length:Int) == 1)
          (((0:Int)<=0/\0<(((at' ((([]:List GRat)++fail)++repair) x1).L).length:Int))/\
          ac (decide (1024<=(at' ((at' ((([]:List GRat)++fail)++repair) x1).L) 0)))
           (Q true)
           (((0:Int)<=0/\0<(((at' ((([]:List GRat)++fail)++repair) x1).W).length:Int))/\
           ac (decide (16<=(at' ((at' ((([]:List GRat)++fail)++repair) x1).W) 0)))
            (Q true)
            (rng (x1+1)/\
            next1 (x1+1))))
          (rng (x1+1)/\
          next1 (x1+1)))))))
     (aH (σ:=Int×(List GRat)) (0,[]) λ⟨x2,q⟩ next2=>
      ac (decide (x2<(fail.length:Int)))
       (((0:Int)<=x2/\x2<(fail.length:Int))/\
       ((0:Int)<=x2/\x2<(repair.length:Int))/\
       xk (eQ (at' fail x2) (at' repair x2)) λr3 r4=>
       ac (isSome r4)
        (xr r4 8 λr5=>
        Q r5)
        (((q++[r3]).length*56<=140737488355328)/\
        rng (x2+1)/\
        next2 ((x2+1),(q++[r3]))))
       (jX fail repair f λr6 r7=>
       gl fail repair λr8 r9=>
       mh f q λr10 r11=>
       ac (isSome r7)
        (Q false)
        (ac (isSome r9)
         (Q false)
         (ac (isSome r11)
          (Q false)
          (cE r6 λr12 r13=>
          eY r6 r8 λr14 r15=>
          fV r6 r8 λr16 r17=>
          ac (isSome r13)
           (Q false)
           (ac (isSome r15)
            (Q false)
            (ac (isSome r17)
             (Q false)
             (ac (!r14)
              (Q false)
              (ac ((r12.length:Int) != (r8.length:Int))
               (Q false)
               (eB r16 r10 λr18=>
               ac (r18 != 0)
                (Q false)
                (aH (σ:=Int) 0 λx3 next3=>
                 ac (decide (x3<(r8.length:Int)))
                  (((0:Int)<=x3/\x3<(r8.length:Int))/\
                  ((0:Int)<=x3/\x3<(r12.length:Int))/\
                  fk (eB (at' r8 x3) (at' r12 x3)) λr19=>
                  ac (r19 != 0)
                   (Q false)
                   (rng (x3+1)/\
                   next3 (x3+1)))
                  (Q true)))))))))))))
end Go.Gg
