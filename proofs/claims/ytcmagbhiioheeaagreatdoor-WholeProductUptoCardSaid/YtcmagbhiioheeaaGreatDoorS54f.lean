/- The program's texts of numbers, walked at the numbers that the self-test meets. Conditions: none. -/
import Derived.Test.YtcmagbhiioheeaaGreatDoorK1
import Derived.Test.YtcmagbhiioheeaaGreatDoorMa
import Derived.Test.YtcmagbhiioheeaaGreatDoorS54e
namespace Go.Proofs.YtcmagbhiioheeaaGreatDoor
open Go.RowKit Go.Shelf Go.Gg
set_option maxHeartbeats 1000000
set_option maxRecDepth 100000
theorem aby {G:Ghost} {b:Bool} {a c:AV} {v:Value} (h:VR G (.tuple [.bool b,a,c]) v):∃x y,VR G a x/\VR G c y/\v = .tuple #[.bool b,x,y]:=by
  cases h with
  | tuple _ xs h1 h2=>
    obtain⟨l⟩:=xs
    match l,h1,h2 with
    | [z,x,y],_,h2=>
      have hz:VR G (.bool b) z:=h2 0 zSm zSm
      have hx:VR G a x:=h2 1 zSm zSm
      have hy:VR G c y:=h2 2 zSm zSm
      cases hz
      exact⟨x,y,hx,hy,rfl⟩
    | [],h,_=>simp at h
    | [_],h,_=>simp at h
    | [_,_],h,_=>simp at h
    | _ :: _ :: _ :: _ :: _,h,_=>simp at h
theorem uO {G:Ghost} {S:St} {w:World} {v:Value} {a:GRat} {q:Rat} (hr:Rel G S w) (hv:VR G (af a) v) (ha:Fr a) (hq:aF a=q):Calls Tryz.prog 48 #[v] w λe w'=>∃x y G',e = .returned (.tuple #[.bool (decide (q.num<0)),x,y])/\G.le G'/\Rel G' S w'/\VR G' (eL (AV.int .u32) (lim q.num.natAbs)) x/\VR G' (eL (AV.int .u32) (lim q.den)) y:=by
  subst hq
  have h:=(bP (S:=S) (R:=λav S'=>av = .tuple [AV.bool (decide ((aF a).num<0)),eL (AV.int .u32) (lim (aF a).num.natAbs),eL (AV.int .u32) (lim (aF a).den)]/\S'=S) (cr (Q:=λb c d=>b=decide ((aF a).num<0)/\c=lim (aF a).num.natAbs/\d=lim (aF a).den) ha ⟨rfl,rfl,rfl⟩) (λr1 r2 r3 h=>⟨by rw[h.1,h.2.1,h.2.2],rfl⟩)).2 G w #[v] hr ⟨rfl,λi h h'=>by
    have:i=0:=by simp at h;omega
    subst this
    exact hv⟩
  refine h.mono λe w' ⟨v',av,S',G',e1,⟨e2,e3⟩,a,b,c⟩=>?_
  subst e2 e3
  obtain⟨x,y,hx,hy,ex⟩:=aby c
  exact⟨x,y,G',by rw[e1,ex],a,b,hx,hy⟩
theorem Aa {G:Ghost} {S:St} {w:World} {v u:Value} {l m:List Int} (hr:Rel G S w) (hv:VR G (eL (AV.int .u32) l) v) (hu:VR G (eL (AV.int .u32) m) u) (hl:az l) (hm:az m) (sl:SM l) (sm:SM m):Calls Tryz.prog 50 #[v,u] w λe w'=>∃G',e = .returned (.int .i64 (kD (val l) (val m)))/\G.le G'/\Rel G' S w':=by
  have h:=(eU (S:=S) (R:=λav S'=>av=AV.int .i64 (kD (val l) (val m))/\S'=S) (fi (Q:=λa=>a=kD (val l) (val m)) hl hm sl sm rfl) (λr1 h=>⟨by rw[h],rfl⟩)).2 G w #[v,u] hr ⟨rfl,λi h h'=>by
    have:i=0\/i=1:=by simp at h;omega
    rcases this with rfl | rfl
    · exact hv
    · exact hu⟩
  refine h.mono λe w' ⟨v',av,S',G',e1,⟨e2,e3⟩,a,b,c⟩=>?_
  subst e2 e3
  cases c
  exact⟨G',e1,a,b⟩
theorem zq {G:Ghost} {S:St} {w:World} (hr:Rel G S w):Calls Tryz.prog 51 #[] w λe w'=>∃v' G',e = .returned v'/\G.le G'/\Rel G' S w'/\VR G' (eL (AV.int .u32) [1]) v':=by
  have h:=(gJ (S:=S) (R:=λav S'=>av=eL (AV.int .u32) [1]/\S'=S) (Q:=λa=>a=[1]) rfl (λr1 h=>⟨by rw[h],rfl⟩)).2 G w #[] hr ⟨rfl,λi h h'=>by simp at h⟩
  refine h.mono λe w' ⟨v',av,S',G',e1,⟨e2,e3⟩,a,b,c⟩=>?_
  subst e2 e3
  exact⟨v',G',e1,a,b,c⟩
theorem aaf {G:Ghost} {b:Bool} {a c:AV} {v:Value} (h:VR G (.agg [.bool b,a,c]) v):∃x y,v = .agg #[.bool b,x,y]:=by
  cases h with
  | agg _ xs h1 h2=>
    obtain⟨l⟩:=xs
    match l,h1,h2 with
    | [z,x,y],_,h2=>
      have hz:VR G (.bool b) z:=h2 0 zSm zSm
      cases hz
      exact⟨x,y,rfl⟩
    | [],h,_=>simp at h
    | [_],h,_=>simp at h
    | [_,_],h,_=>simp at h
    | _ :: _ :: _ :: _ :: _,h,_=>simp at h
theorem abU:Fr ⟨false,[1],[4]⟩:=⟨by intro i;cases i<;>simp,by intro i;cases i<;>simp,by decide,by decide⟩
theorem AC {G:Ghost} {S:St} {w:World} {v:Value} (hr:Rel G S w) (hv:VR G (af ⟨false,[1],[4]⟩) v):Calls Tryz.prog 19 #[v] w λe w'=>∃G',e = .returned (.string ⟨#[49,47,52]⟩)/\G.le G'/\Rel G' S w':=by
  obtain⟨x,y,rfl⟩:=aaf hv
  have e1:lim (1 / 4:Rat).num.natAbs=[1]:=by decide +kernel
  have e2:lim (1 / 4:Rat).den=[4]:=by decide +kernel
  have e3:decide ((1 / 4:Rat).num<0)=false:=by decide +kernel
  have hq:aF ⟨false,[1],[4]⟩=1 / 4:=by decide +kernel
  go_enter Tryz.func19,Tryz.ntmps19
  go_wp2_with (go_at_call 48;refine(uO (jI hr ((Below.refl _ w).alloc (Nat.le_refl _) _)) hv abU hq).mono ?_)
  intro e w1 x1 y1 he G1 g1 r1 hx1 hy1
  subst he
  obtain⟨b1,o1,c1,rfl⟩:=jM hx1 (by decide)
  obtain⟨b2,o2,c2,rfl⟩:=jM hy1 (by decide)
  go_wp2_with (go_at_call 49;refine(wF r1 hx1).mono ?_)
  rintro e w2 ⟨G2,rfl,g2,r2⟩
  go_wp2_with (go_at_call 51;refine(zq r2).mono ?_)
  rintro e w3 ⟨v3,G3,rfl,g3,r3,h3⟩
  obtain⟨b3,o3,c3,rfl⟩:=jM h3 (by decide)
  have hy3:=hy1.mono (g2.trans g3)
  go_wp2_with (go_at_call 50;refine(Aa r3 hy3 h3 (by intro i;cases i<;>simp) (by intro i;cases i<;>simp) (by simp[SM]) (by simp[SM])).mono ?_)
  rintro e w4 ⟨G4,rfl,g4,r4⟩
  rw[show kD (val [4]) (val [1])=1 by decide +kernel]
  have hy4:=hy3.mono g4
  go_wp2_with (go_at_call 49;refine(Av r4 hy4).mono ?_)
  rintro e w5 ⟨G5,rfl,g5,r5⟩
  go_wp2
  go_ret
  exact⟨G5,rfl,g1.trans (g2.trans (g3.trans (g4.trans g5))),r5⟩
theorem abV:Fr ⟨false,[1],[1]⟩:=⟨by intro i;cases i<;>simp,by intro i;cases i<;>simp,by decide,by decide⟩
theorem zj {G:Ghost} {S:St} {w:World} {v:Value} (hr:Rel G S w) (hv:VR G (af ⟨false,[1],[1]⟩) v):Calls Tryz.prog 19 #[v] w λe w'=>∃G',e = .returned (.string ⟨#[49]⟩)/\G.le G'/\Rel G' S w':=by
  obtain⟨x,y,rfl⟩:=aaf hv
  have e1:lim (1:Rat).num.natAbs=[1]:=by decide +kernel
  have e2:lim (1:Rat).den=[1]:=by decide +kernel
  have e3:decide ((1:Rat).num<0)=false:=by decide +kernel
  have hq:aF ⟨false,[1],[1]⟩=1:=by decide +kernel
  go_enter Tryz.func19,Tryz.ntmps19
  go_wp2_with (go_at_call 48;refine(uO (jI hr ((Below.refl _ w).alloc (Nat.le_refl _) _)) hv abV hq).mono ?_)
  intro e w1 x1 y1 he G1 g1 r1 hx1 hy1
  subst he
  rw[show lim 1=[1] by decide +kernel] at hx1 hy1
  obtain⟨b1,o1,c1,rfl⟩:=jM hx1 (by decide)
  obtain⟨b2,o2,c2,rfl⟩:=jM hy1 (by decide)
  go_wp2_with (go_at_call 49;refine(wF r1 hx1).mono ?_)
  rintro e w2 ⟨G2,rfl,g2,r2⟩
  go_wp2_with (go_at_call 51;refine(zq r2).mono ?_)
  rintro e w3 ⟨v3,G3,rfl,g3,r3,h3⟩
  obtain⟨b3,o3,c3,rfl⟩:=jM h3 (by decide)
  have hy3:=hy1.mono (g2.trans g3)
  go_wp2_with (go_at_call 50;refine(Aa r3 hy3 h3 (by intro i;cases i<;>simp) (by intro i;cases i<;>simp) (by simp[SM]) (by simp[SM])).mono ?_)
  rintro e w4 ⟨G4,rfl,g4,r4⟩
  rw[show kD (val [1]) (val [1])=0 by decide +kernel]
  go_wp2
  go_ret
  exact⟨G4,rfl,g1.trans (g2.trans (g3.trans g4)),r4⟩
theorem lX {a:GRat} {Q:ByteArray->Prop} {S:St} {R:AV->St->Prop} (h:jV a Q) (hQ:∀r1,Q r1->R (AV.str r1) S):Ctr Tryz.prog 19 [af a] S R:=by
  refine⟨by kernel_rfl,λG w vs hr hv=>?_⟩
  obtain⟨l⟩:=vs
  match l,hv with
  | [v],hv=>
    have hv0:VR G (af a) v:=hv.2 0 zSm zSm
    rcases h with⟨rfl,h⟩ | ⟨rfl,h⟩
    · exact(AC hr hv0).mono λe w' ⟨G',e1,g,r⟩=>⟨_,_,S,G',e1,hQ _ h,g,r,.str _⟩
    · exact(zj hr hv0).mono λe w' ⟨G',e1,g,r⟩=>⟨_,_,S,G',e1,hQ _ h,g,r,.str _⟩
  | [],hv=>exact absurd hv.1 zSm
  | _ :: _ :: _,hv=>exact absurd hv.1 zSm
end Go.Proofs.YtcmagbhiioheeaaGreatDoor
