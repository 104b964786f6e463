/- The program's texts of numbers, walked at the numbers that the self-test meets. Conditions: none. -/
import Derived.Test.YtcmagbhiioheeaaGreatDoorK1
import Derived.Test.YtcmagbhiioheeaaGreatDoorMa
import Derived.Test.YtcmagbhiioheeaaGreatDoorS54d
namespace Go.Proofs.YtcmagbhiioheeaaGreatDoor
open Go.RowKit Go.Shelf Go.Gg
set_option maxHeartbeats 1000000
set_option maxRecDepth 100000
theorem wE {G:Ghost} {S:St} {w:World} {v:Value} {l:List Int} (hr:Rel G S w) (hv:VR G (eL (AV.int .u32) l) v) (hw:az l) (hl:SM l):Calls Tryz.prog 91 #[v] w λe w'=>∃v' G',e = .returned v'/\G.le G'/\Rel G' S w'/\VR G' (eL (AV.int .u32) (lim (val l))) v':=by
  have h:=(bo (S:=S) (R:=λav S'=>av=eL (AV.int .u32) (lim (val l))/\S'=S) (bG hw hl rfl) (λr h=>⟨by rw[h],rfl⟩)).2 G w #[v] hr ⟨rfl,λi h h'=>by
    have:i=0:=by simp at h;omega
    subst this
    exact hv⟩
  refine h.mono λe w' ⟨v',av,S',G',e1,⟨e2,e3⟩,a,b,c⟩=>?_
  subst e2 e3
  exact⟨v',G',e1,a,b,c⟩
theorem abz {G:Ghost} {a:AV} {k:IntKind} {n:Int} {v:Value} (h:VR G (.tuple [a,.int k n]) v):∃x,VR G a x/\v = .tuple #[x,.int k n]:=by
  cases h with
  | tuple _ xs h1 h2=>
    obtain⟨l⟩:=xs
    match l,h1,h2 with
    | [x,y],_,h2=>
      have hx:VR G a x:=h2 0 zSm zSm
      have hy:VR G (.int k n) y:=h2 1 zSm zSm
      cases hy
      exact⟨x,hx,rfl⟩
    | [],h,_=>simp at h
    | [_],h,_=>simp at h
    | _ :: _ :: _ :: _,h,_=>simp at h
theorem uj {G:Ghost} {S:St} {w:World} {v:Value} {l:List Int} (hr:Rel G S w) (hv:VR G (eL (AV.int .u32) l) v) (hw:az l) (hl:SM l):Calls Tryz.prog 92 #[v,.int .u32 1000000000] w λe w'=>∃v' G',e = .returned (.tuple #[v',.int .u32 ((val l % 1000000000:Nat):Int)])/\G.le G'/\Rel G' S w'/\VR G' (eL (AV.int .u32) (lim (val l / 1000000000))) v':=by
  have h:=(l_ (S:=S) (b:=1000000000) (R:=λav S'=>av = .tuple [eL (AV.int .u32) (lim (val l / 1000000000)),AV.int .u32 ((val l % 1000000000:Nat):Int)]/\S'=S) (nX (Q:=λa b=>a=lim (val l / 1000000000)/\b=((val l % 1000000000:Nat):Int)) hw hl (by decide) (by decide) ⟨rfl,rfl⟩) (λr1 r2 h=>⟨by rw[h.1,h.2],rfl⟩)).2 G w #[v,.int .u32 1000000000] hr ⟨rfl,λi h h'=>by
    have:i=0\/i=1:=by simp at h;omega
    rcases this with rfl | rfl
    · exact hv
    · exact .int _ _⟩
  refine h.mono λe w' ⟨v',av,S',G',e1,⟨e2,e3⟩,a,b,c⟩=>?_
  subst e2 e3
  obtain⟨x,hx,ex⟩:=abz c
  exact⟨x,G',by rw[e1,ex],a,b,hx⟩
theorem jM {G:Ghost} {es:List AV} {v:Value} (h:VR G (.list es) v) (hn:0<es.length):∃b o cap,v = .slice (some ⟨b,o,none⟩) es.length cap:=by
  cases h with
  | list _ a n cap c x k u h1 h2 h3 h4=>
    subst h1
    exact⟨c,x,cap,by rw[h4 hn]⟩
theorem xd {G:Ghost} {v:Value} (h:VR G (.list []) v):∃a cap,v = .slice a 0 cap:=by
  cases h with
  | list _ a n cap c x k u h1 h2 h3 h4=>
    subst h1
    exact⟨a,cap,rfl⟩
theorem KF (w:World) (A B C:Obj) (s:Value) (z:Array Value) (e:TypeId) (hB:B=Obj.cells (#[s]++z) e):(((w.alloc A).alloc B).alloc C).drew.cell? ⟨w.heap.size+1,0,none⟩=some s:=by
  have hh:(((w.alloc A).alloc B).alloc C).drew.heap[w.heap.size+1]? = some B:=by
    show(((w.heap.push A).push B).push C)[w.heap.size+1]? = _
    rw[Array.getElem?_push,if_neg zSm,Array.getElem?_push,if_pos zSm]
  unfold World.cell?
  rw[hh,hB]
  show(#[s]++z)[0]? = some s
  rw[Array.getElem?_append_left zSm]
  rfl
theorem E7 (w:World) (A B:Obj):Lib.IsBuilder 147 5 w.heap.size (w.heap.size+1+1) [] (((w.alloc A).alloc B).alloc (Obj.cells #[Value.pointer none,Value.slice none 0 0] 147)).drew:=by
  refine Or.inl ⟨om,.slice none 0 0,?_,World.ownsRow_nil _ _ _ _,by simp[Value.ownBlock]⟩
  show(((w.heap.push A).push B).push (Obj.cells #[Value.pointer none,Value.slice none 0 0] 147))[w.heap.size+1+1]? = _
  rw[Array.getElem?_push,if_pos zSm]
theorem E8 (w:World) (A B C:Obj):Below w.heap.size w (((w.alloc A).alloc B).alloc C).drew:=by
  have h1:=(Below.refl w.heap.size w).alloc (Nat.le_refl _) A
  have h2:=h1.alloc h1.size B
  have h3:=h2.alloc h2.size C
  exact h3.drew
theorem jI {G:Ghost} {S:St} {w w':World} (h:Rel G S w) (hb:Below w.heap.size w w'):Rel G S w':=
  h.turn (row:=none) rfl rfl rfl ⟨hb.os,hb.tape,hb.output,hb.size,λk hk _=>hb.block k hk⟩ (λb e=>by cases e) (λb hd=>by
    have h1:=h.below.2.1 b hd
    have hlt:b<w.heap.size:=by
      rcases Nat.lt_or_ge b w.heap.size with h' | h'
      · exact h'
      · simp[Array.getElem?_eq_none h'] at h1
    exact(hb.block b hlt).trans h1) (Nat.le_trans h.below.2.2 hb.size)
theorem wF {G:Ghost} {S:St} {w:World} {v:Value} (hr:Rel G S w) (hv:VR G (eL (AV.int .u32) [1]) v):Calls Tryz.prog 49 #[v] w λe w'=>∃G',e = .returned (.string ⟨#[49]⟩)/\G.le G'/\Rel G' S w':=by
  go_enter Tryz.func49,Tryz.ntmps49
  go_wp2_with (go_at_call 91;refine(wE hr hv (by intro i;cases i<;>simp) (by simp[SM])).mono ?_)
  rintro e w1 ⟨v1,G1,rfl,g1,r1,h1⟩
  have e1:lim (val [1])=[1]:=by decide +kernel
  rw[e1] at h1
  obtain⟨b1,o1,c1,rfl⟩:=jM h1 (by decide)
  go_wp2
  refine wp_loop_rounds 2 ?_
  rw[rounds_succ]
  go_wp2_with (go_at_call 92;refine(uj r1 h1 (by intro i;cases i<;>simp) (by simp[SM])).mono ?_)
  rintro e w2 ⟨v2,G2,rfl,g2,r2,h2⟩
  have e2:val [1] % 1000000000=1:=by decide +kernel
  have e3:lim (val [1] / 1000000000)=[]:=by decide +kernel
  rw[e2]
  rw[e3] at h2
  go_wp2_with (go_at_call 93;refine(Gq _).mono ?_)
  rintro e w3 ⟨rfl,b3⟩
  obtain⟨a2,c2,rfl⟩:=xd h2
  go_wp2
  rw[rounds_succ]
  go_wp2
  have hc:=KF w3 (Obj.cells #[Value.string { data:=#[48,48,48,48,48,48,48,48,49] }] 9) _ (Obj.cells #[Value.pointer none,Value.slice none 0 0] 147) (Value.string { data:=#[48,48,48,48,48,48,48,48,49] }) (Builtin.zeroCells #[Value.string { data:=#[] }] ((Question.appendCap 1 0 9).cut (w3.tape w3.drawn (Question.appendCap 1 0 9))-1)) 9 rfl
  have hb:=E7 w3 (Obj.cells #[Value.string { data:=#[48,48,48,48,48,48,48,48,49] }] 9) (Obj.cells (#[Value.string { data:=#[48,48,48,48,48,48,48,48,49] }]++Builtin.zeroCells #[Value.string { data:=#[] }] ((Question.appendCap 1 0 9).cut (w3.tape w3.drawn (Question.appendCap 1 0 9))-1)) 9)
  have hl:=E8 w3 (Obj.cells #[Value.string { data:=#[48,48,48,48,48,48,48,48,49] }] 9) (Obj.cells (#[Value.string { data:=#[48,48,48,48,48,48,48,48,49] }]++Builtin.zeroCells #[Value.string { data:=#[] }] ((Question.appendCap 1 0 9).cut (w3.tape w3.drawn (Question.appendCap 1 0 9))-1)) 9) (Obj.cells #[Value.pointer none,Value.slice none 0 0] 147)
  generalize hW:(((w3.alloc (Obj.cells #[Value.string { data:=#[48,48,48,48,48,48,48,48,49] }] 9)).alloc (Obj.cells (#[Value.string { data:=#[48,48,48,48,48,48,48,48,49] }]++Builtin.zeroCells #[Value.string { data:=#[] }] ((Question.appendCap 1 0 9).cut (w3.tape w3.drawn (Question.appendCap 1 0 9))-1)) 9)).alloc (Obj.cells #[Value.pointer none,Value.slice none 0 0] 147)).drew=W at hc hb hl ⊢
  refine wp_loop_rounds 2 ?_
  rw[rounds_succ]
  go_wp2_with (go_at_call 94;refine(Any.Builder_WriteString zJ yg w3.heap.size (w3.heap.size+1+1) [] ⟨#[48,48,48,48,48,48,48,48,49]⟩ _ hb (by decide) hl.size).mono ?_)
  rintro e w4 ⟨rfl,h4,b4⟩
  have h5:Lib.IsBuilder 147 5 w3.heap.size (w3.heap.size+1+1) (Lib.byteCells [48,48,48,48,48,48,48,48,49]) w4:=by
    rw[List.nil_append,Lib.strCells_eq] at h4
    exact Or.inr h4
  go_wp2
  rw[rounds_succ]
  go_wp2_with (go_at_call 96;refine(Any.Builder_String zI yg w3.heap.size (w3.heap.size+1+1) [48,48,48,48,48,48,48,48,49] _ h5 (by decide)).mono ?_)
  rintro e w5 ⟨rfl,b5⟩
  have hcon:=Any.strings_TrimLeft_laid zH (by kernel_rfl) ⟨#[48,48,48,48,48,48,48,48,49]⟩ ⟨#[48]⟩ w5 (by decide) (ascii_of_all (by decide))
  rw[show Lib.trimLeftS [48,48,48,48,48,48,48,48,49] [48]=[49] by decide] at hcon
  go_wp2_with (go_at_call 95;refine hcon.mono ?_)
  rintro e w6 ⟨rfl,b6⟩
  go_wp2
  go_ret
  have r3:=jI r2 b3
  have r5:=jI r3 ((hl.trans b4).trans b5)
  exact⟨G2,rfl,g1.trans g2,jI r5 b6⟩
theorem Av {G:Ghost} {S:St} {w:World} {v:Value} (hr:Rel G S w) (hv:VR G (eL (AV.int .u32) [4]) v):Calls Tryz.prog 49 #[v] w λe w'=>∃G',e = .returned (.string ⟨#[52]⟩)/\G.le G'/\Rel G' S w':=by
  go_enter Tryz.func49,Tryz.ntmps49
  go_wp2_with (go_at_call 91;refine(wE hr hv (by intro i;cases i<;>simp) (by simp[SM])).mono ?_)
  rintro e w1 ⟨v1,G1,rfl,g1,r1,h1⟩
  have e1:lim (val [4])=[4]:=by decide +kernel
  rw[e1] at h1
  obtain⟨b1,o1,c1,rfl⟩:=jM h1 (by decide)
  go_wp2
  refine wp_loop_rounds 2 ?_
  rw[rounds_succ]
  go_wp2_with (go_at_call 92;refine(uj r1 h1 (by intro i;cases i<;>simp) (by simp[SM])).mono ?_)
  rintro e w2 ⟨v2,G2,rfl,g2,r2,h2⟩
  have e2:val [4] % 1000000000=4:=by decide +kernel
  have e3:lim (val [4] / 1000000000)=[]:=by decide +kernel
  rw[e2]
  rw[e3] at h2
  go_wp2_with (go_at_call 93;refine(CZ _).mono ?_)
  rintro e w3 ⟨rfl,b3⟩
  obtain⟨a2,c2,rfl⟩:=xd h2
  go_wp2
  rw[rounds_succ]
  go_wp2
  have hc:=KF w3 (Obj.cells #[Value.string { data:=#[48,48,48,48,48,48,48,48,52] }] 9) _ (Obj.cells #[Value.pointer none,Value.slice none 0 0] 147) (Value.string { data:=#[48,48,48,48,48,48,48,48,52] }) (Builtin.zeroCells #[Value.string { data:=#[] }] ((Question.appendCap 1 0 9).cut (w3.tape w3.drawn (Question.appendCap 1 0 9))-1)) 9 rfl
  have hb:=E7 w3 (Obj.cells #[Value.string { data:=#[48,48,48,48,48,48,48,48,52] }] 9) (Obj.cells (#[Value.string { data:=#[48,48,48,48,48,48,48,48,52] }]++Builtin.zeroCells #[Value.string { data:=#[] }] ((Question.appendCap 1 0 9).cut (w3.tape w3.drawn (Question.appendCap 1 0 9))-1)) 9)
  have hl:=E8 w3 (Obj.cells #[Value.string { data:=#[48,48,48,48,48,48,48,48,52] }] 9) (Obj.cells (#[Value.string { data:=#[48,48,48,48,48,48,48,48,52] }]++Builtin.zeroCells #[Value.string { data:=#[] }] ((Question.appendCap 1 0 9).cut (w3.tape w3.drawn (Question.appendCap 1 0 9))-1)) 9) (Obj.cells #[Value.pointer none,Value.slice none 0 0] 147)
  generalize hW:(((w3.alloc (Obj.cells #[Value.string { data:=#[48,48,48,48,48,48,48,48,52] }] 9)).alloc (Obj.cells (#[Value.string { data:=#[48,48,48,48,48,48,48,48,52] }]++Builtin.zeroCells #[Value.string { data:=#[] }] ((Question.appendCap 1 0 9).cut (w3.tape w3.drawn (Question.appendCap 1 0 9))-1)) 9)).alloc (Obj.cells #[Value.pointer none,Value.slice none 0 0] 147)).drew=W at hc hb hl ⊢
  refine wp_loop_rounds 2 ?_
  rw[rounds_succ]
  go_wp2_with (go_at_call 94;refine(Any.Builder_WriteString zJ yg w3.heap.size (w3.heap.size+1+1) [] ⟨#[48,48,48,48,48,48,48,48,52]⟩ _ hb (by decide) hl.size).mono ?_)
  rintro e w4 ⟨rfl,h4,b4⟩
  have h5:Lib.IsBuilder 147 5 w3.heap.size (w3.heap.size+1+1) (Lib.byteCells [48,48,48,48,48,48,48,48,52]) w4:=by
    rw[List.nil_append,Lib.strCells_eq] at h4
    exact Or.inr h4
  go_wp2
  rw[rounds_succ]
  go_wp2_with (go_at_call 96;refine(Any.Builder_String zI yg w3.heap.size (w3.heap.size+1+1) [48,48,48,48,48,48,48,48,52] _ h5 (by decide)).mono ?_)
  rintro e w5 ⟨rfl,b5⟩
  have hcon:=Any.strings_TrimLeft_laid zH (by kernel_rfl) ⟨#[48,48,48,48,48,48,48,48,52]⟩ ⟨#[48]⟩ w5 (by decide) (ascii_of_all (by decide))
  rw[show Lib.trimLeftS [48,48,48,48,48,48,48,48,52] [48]=[52] by decide] at hcon
  go_wp2_with (go_at_call 95;refine hcon.mono ?_)
  rintro e w6 ⟨rfl,b6⟩
  go_wp2
  go_ret
  have r3:=jI r2 b3
  have r5:=jI r3 ((hl.trans b4).trans b5)
  exact⟨G2,rfl,g1.trans g2,jI r5 b6⟩
end Go.Proofs.YtcmagbhiioheeaaGreatDoor
