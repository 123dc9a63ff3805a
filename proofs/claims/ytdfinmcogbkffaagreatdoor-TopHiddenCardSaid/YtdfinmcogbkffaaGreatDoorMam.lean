/- Lemmas. -/
import Derived.Test.YtdfinmcogbkffaaGreatDoorMal
namespace Go.Proofs.YtdfinmcogbkffaaGreatDoor
open Go.RowKit
set_option linter.unusedVariables false
set_option linter.unusedSimpArgs false
set_option maxHeartbeats 16000000
open _root_.Go.Proofs.Tryz
set_option maxRecDepth 20000
theorem QDd{p:Prop}(h:p:=by
 obtain⟨u,hu,hu2⟩:=cN.1 hb;injection hu with hu;subst hu;exact(hat b hu2).imp (own b) id):p:=h
theorem QCr{p:Prop}(h:p:=by
 obtain⟨u,hu,hu2⟩:=cN.1 hb;injection hu with hu;subst hu
 rcases hat b hu2 with h2|h2
 .exact hK b hKb h2.symm
 .have:=(h.kept b hKb).1;omega):p:=h
section
variable {K:nP} {base:Nat} {w w' w1:World} {s:Sto} {L:List Mix} {ro:Option Value} {vr vn vo vt vu vk vb:Value} {g n c k:Nat}
theorem bC.beside{vc:Value}(h:bC K base w s L ro vc vr vn vo vt vu vk vb)(d:k<L.length):(∀b,bO L[k].2.1=some b->∀j (hj:j<L.length),(j≠k->bO L[j].2.1≠some b)/\bO L[j].2.2≠some b)/\(∀b,bO L[k].2.2=some b->∀j (hj:j<L.length),(j≠k->bO L[j].2.2≠some b)/\bO L[j].2.1≠some b):=by
 have ha:=DE.1 h.apart;have ne:∀i j (f:i<L.length) (hj:j<L.length) b,bO L[i].2.1=some b->bO L[j].2.2=some b->False:=fun i j f hj b h1 h2=>by
  obtain⟨u,_,g,g1,_⟩:=h.aEg f h1;obtain⟨m,_,l,g2,_⟩:=h.aEh hj h2;exact dS g1 g2 qe g l.symm
 exact⟨fun b c j hj=>⟨fun e a=>(ha k j d hj (Ne.symm e)).1 b c a,fun a=>ne k j d hj b c a⟩,fun b c j hj=>⟨fun e a=>(ha k j d hj (Ne.symm e)).2 b c a,fun a=>ne j k hj d b a c⟩⟩
theorem tR{L:List Mix}{l:List cG}(h:L.map Prod.fst=l)(k:Nat)(x:Mix):(L.set k x).map Prod.fst=l.set k x.1:=by rw[List.map_set,h]
theorem bC.rest(h:bC K base w s L ro (.slice (some ⟨g,0,none⟩) n c) vr vn vo vt vu vk vb){q:nP}(f:aN q w w1)(k:∀b,K b->q b)(z:∀b,vr.ownBlock=some b->q b)(v:∀b,vn.ownBlock=some b->q b)(y:∀b,bO ro=some b->q b)
 {a:List Mix}{l':List cG}(m:a.map Prod.fst=l')(t:∀j (hj:j<a.length),a[j].2.2.isSome=true)(o:pN a)(r:∀j (hj:j<a.length),(∀b,bO a[j].2.1=some b->¬K b)/\(∀b,bO a[j].2.2=some b->¬K b)){i:Nat}{x:Value}
 (p:aM (eA base K) 5 104 (w1.setCell ⟨g,i,none⟩ x) base (fun b=>K b\/base<=b) (.slice (some ⟨g,0,none⟩) n c) a):bC K base (w1.setCell ⟨g,i,none⟩ x) {s with aDz:=l'} a ro (.slice (some ⟨g,0,none⟩) n c) vr vn vo vt vu vk vb:={
 aDI:=h.aDI
 aDL:=h.aDL
 all:=m
 aD0:=t
 apart:=o
 aDz:=p
 aDC:=aM.off cV (h.aDC.stays cV f z (fun _ h _=>h.elim)) (fun h=>h) (fun e=>dS h.aDC h.aDz qe e rfl)
 aDG:=aM.off eB (h.aDG.stays eB f v (fun _ h _=>h.elim)) (fun h=>h) (fun e=>dS h.aDG h.aDz qe e rfl)
 aDM:=(h.aDM.aEc dC f k y (fun _ h _=>h)).aEc (q:=fun b=>b≠g) dC (aI x) (fun b d e=>(h.kept b d).2.1 (by rw[e];rfl)) (fun b e l=>by
  obtain⟨u,h2,h3⟩:=h.rol e;exact dS h3 h.aDz qe h2 (by rw[l];rfl)) (fun _ h _=>h)
 aDA:=(h.aDA.aDH (f.mono fun b _ d=>k b d)).aDH (fI (fun d=>(h.kept g d).2.1 rfl))
 kept:=fun b d=>⟨by rw[jO];exact lL (h.kept b d).1 f.size,(h.kept b d).2⟩
 aD3:=r
 aEb:=h.aEb
 size:=by rw[jO];exact lT h.size f.size}
theorem zZ{L:List Mix}(h:∀j (hj:j<L.length),L[j].2.2.isSome=true){k:Nat}{x:Mix}(a:x.2.2.isSome=true):∀j (hj:j<(L.set k x).length),(L.set k x)[j].2.2.isSome=true:=by
 intro j hj;rw[List.length_set] at hj;rw[List.getElem_set];split
 .exact a
 .exact h j hj
theorem AB{K:nP}{L:List Mix}(h:∀j (hj:j<L.length),(∀b,bO L[j].2.1=some b->¬K b)/\(∀b,bO L[j].2.2=some b->¬K b)){k:Nat}{x:Mix}(a:(∀b,bO x.2.1=some b->¬K b)/\(∀b,bO x.2.2=some b->¬K b)):∀j (hj:j<(L.set k x).length),(∀b,bO (L.set k x)[j].2.1=some b->¬K b)/\(∀b,bO (L.set k x)[j].2.2=some b->¬K b):=by
 intro j hj;rw[List.length_set] at hj;rw[List.getElem_set];split
 .exact a
 .exact h j hj
theorem bC.log(h:bC K base w s L ro (.slice (some ⟨g,0,none⟩) n c) vr vn vo vt vu vk vb)(a:k<L.length){v v':Value}(q:L[k].2.2=some v){d:List uC}(z:w.grownBy w1 v.ownBlock)(m:aM mU 3 166 w1 base (fun _=>False) v' d)(hat:∀b,v'.ownBlock=some b->v.ownBlock=some b\/w.heap.size<=b)(hlen:d.length<=1000000):
 bC K base (w1.setCell ⟨g,k * 5+4,none⟩ v') {s with aDz:=s.aDz.set k {L[k].1 with log:=d}} (L.set k ({L[k].1 with log:=d},L[k].2.1,some v')) ro (.slice (some ⟨g,0,none⟩) n c) vr vn vo vt vu vk vb:=by
 have l:=cZ z;have f:=(kI h.aDz a).2 v q;have H:g<w.heap.size:=(h.aDz.lt g rfl).2;have own:∀b,v.ownBlock=some b->bO L[k].2.2=some b:=fun b hb=>cN.2 ⟨v,q,hb⟩
 have hK:∀b,K b->some b≠v.ownBlock:=fun b hb e=>(h.aD3 k a).2 b (own b e.symm) hb
 have o:some g≠v.ownBlock:=fun e=>f.2.1 g e.symm rfl
 have B:∀b,v'.ownBlock=some b->b≠g:=fun b hb e=>by
  rcases hat b hb with h2|h2
  .exact o (by rw[h2,e])
  .omega
 have t:=MX (v:=v') (y:=({L[k].1 with log:=d},L[k].2.1,some v')) h.aDz a (j:=4) qe l o hK
  (fun i p A=>⟨fun b hb e=>((h.beside a).2 b (own b e.symm) i p).2 hb,fun b hb e=>((h.beside a).2 b (own b e.symm) i p).1 A hb⟩)
  (by
    rintro r ⟨G,I,rfl,C,D,E,F,p5⟩;refine⟨G,v',rfl,C,D,E,?_,rfl,m,fun b hb=>⟨.inr (m.lt b hb).1,(m.lt b hb).2,B b hb⟩,hlen⟩;exact F.aEc bP l hK (fun b hb e=>((h.beside a).2 b (own b e.symm) k a).2 hb) (fun b hb _=>⟨hb.1,lL hb.2.1 l.size,hb.2.2⟩))
 refine h.rest l hK (fun b hb=>dS h.aDC f.1 qe hb) (fun b hb=>dS h.aDG f.1 qe hb) (fun b e=> ?_) (tR h.all k ({L[k].1 with log:=d},L[k].2.1,some v')) (zZ (x:=({L[k].1 with log:=d},L[k].2.1,some v')) h.aD0 rfl) (xG (x:=({L[k].1 with log:=d},L[k].2.1,some v')) h.apart a h.lt (fun b hb=> .inl hb) (fun b hb=> ?_)) (AB (x:=({L[k].1 with log:=d},L[k].2.1,some v')) h.aD3 ⟨(h.aD3 k a).1,fun b hb hKb=> ?_⟩) t
 .obtain⟨u,h2,h3⟩:=h.rol e;exact dS h3 f.1 qe h2
 .exact QDd
 .exact QCr
theorem bC.aDE(h:bC K base w s L ro (.slice (some ⟨g,0,none⟩) n c) vr vn vo vt vu vk vb)(a:k<L.length){v v':Value}(q:L[k].2.1=some v){d:List pT}(z:w.grownBy w1 v.ownBlock)(m:aM lH 4 178 w1 base (fun _=>False) v' d)(hat:∀b,v'.ownBlock=some b->v.ownBlock=some b\/w.heap.size<=b)(hlen:d.length<=1000000):
 bC K base (w1.setCell ⟨g,k * 5+3,none⟩ v') {s with aDz:=s.aDz.set k {L[k].1 with aDE:=d}} (L.set k ({L[k].1 with aDE:=d},some v',L[k].2.2)) ro (.slice (some ⟨g,0,none⟩) n c) vr vn vo vt vu vk vb:=by
 have l:=cZ z;have f:=(kI h.aDz a).1 v q;have G:g<w.heap.size:=(h.aDz.lt g rfl).2;have own:∀b,v.ownBlock=some b->bO L[k].2.1=some b:=fun b hb=>cN.2 ⟨v,q,hb⟩
 have hK:∀b,K b->some b≠v.ownBlock:=fun b hb e=>(h.aD3 k a).1 b (own b e.symm) hb
 have o:some g≠v.ownBlock:=fun e=>f.2.1 g e.symm rfl
 have B:∀b,v'.ownBlock=some b->b≠g:=fun b hb e=>by
  rcases hat b hb with h2|h2
  .exact o (by rw[h2,e])
  .omega
 have t:=MX (v:=v') (y:=({L[k].1 with aDE:=d},some v',L[k].2.2)) h.aDz a (j:=3) qe l o hK
  (fun i p A=>⟨fun b hb e=>((h.beside a).1 b (own b e.symm) i p).1 A hb,fun b hb e=>((h.beside a).1 b (own b e.symm) i p).2 hb⟩)
  (by
    rintro r ⟨I,F,rfl,C,D,E,H,p5⟩;refine⟨v',F,rfl,C,D,E,⟨rfl,m,fun b hb=>⟨.inr (m.lt b hb).1,(m.lt b hb).2,B b hb⟩,hlen⟩,?_⟩;exact p5.aEc cC l hK (fun b hb e=>((h.beside a).1 b (own b e.symm) k a).2 hb) (fun b hb _=>⟨hb.1,lL hb.2.1 l.size,hb.2.2⟩))
 refine h.rest l hK (fun b hb=>dS h.aDC f.1 qe hb) (fun b hb=>dS h.aDG f.1 qe hb) (fun b e=> ?_) (tR h.all k ({L[k].1 with aDE:=d},some v',L[k].2.2)) (zZ (x:=({L[k].1 with aDE:=d},some v',L[k].2.2)) h.aD0 (h.aD0 k a)) (xG (x:=({L[k].1 with aDE:=d},some v',L[k].2.2)) h.apart a h.lt (fun b hb=> ?_) (fun b hb=> .inl hb)) (AB (x:=({L[k].1 with aDE:=d},some v',L[k].2.2)) h.aD3 ⟨fun b hb hKb=> ?_,(h.aD3 k a).2⟩) t
 .obtain⟨u,h2,h3⟩:=h.rol e;exact dS h3 f.1 qe h2
 .exact QDd
 .exact QCr
theorem bC.aDU(h:bC K base w s L ro (.slice (some ⟨g,0,none⟩) n c) vr vn vo vt vu vk vb)(a:k<L.length){to_:bY}(i:to_.size<=cQ):
 bC K base (w.setCell ⟨g,k * 5+2,none⟩ (.string to_)) {s with aDz:=s.aDz.set k {L[k].1 with aDU:=to_}} (L.set k ({L[k].1 with aDU:=to_},L[k].2.1,L[k].2.2)) ro (.slice (some ⟨g,0,none⟩) n c) vr vn vo vt vu vk vb:=by
 have e:aN (fun _=>True) w w:=aN.refl _ w;have f:=MX (v:= .string to_) (y:=({L[k].1 with aDU:=to_},L[k].2.1,L[k].2.2)) h.aDz a (j:=2) qe e trivial (fun _ _=>trivial) (fun _ _ _=>⟨fun _ _=>trivial,fun _ _=>trivial⟩)
  (by
    rintro r ⟨p,q,rfl,l,m,t,o,p5⟩;exact⟨p,q,rfl,l,m,i,o,p5⟩)
 exact h.rest e (fun _ _=>trivial) (fun _ _=>trivial) (fun _ _=>trivial) (fun _ _=>trivial) (tR h.all k ({L[k].1 with aDU:=to_},L[k].2.1,L[k].2.2)) (zZ h.aD0 (x:=({L[k].1 with aDU:=to_},L[k].2.1,L[k].2.2)) (h.aD0 k a)) (xG (x:=({L[k].1 with aDU:=to_},L[k].2.1,L[k].2.2)) h.apart a h.lt (fun b d=> .inl d) (fun b d=> .inl d)) (AB h.aD3 (x:=({L[k].1 with aDU:=to_},L[k].2.1,L[k].2.2)) (h.aD3 k a)) f
end
section
variable {K:nP} {base:Nat} {w w' w1:World} {s:Sto} {L:List Mix} {ro:Option Value} {vc vr vn vo vt vu vk vb:Value} {g n c k:Nat}
theorem bC.aDS(h:bC K base w s L ro vc vr vn vo vt vu vk vb)(c:k<L.length){v:Value}(g:L[k].2.1=some v){f:List pT}(d:aN (fun b=>some b≠v.ownBlock) w w')(q:aM lH 4 178 w' base (fun _=>False) v f)(hlen:f.length=L[k].1.aDE.length):
 bC K base w' {s with aDz:=s.aDz.set k {L[k].1 with aDE:=f}} (L.set k ({L[k].1 with aDE:=f},some v,L[k].2.2)) ro vc vr vn vo vt vu vk vb:=by
 have l:=(kI h.aDz c).1 v g;have own:∀b,v.ownBlock=some b->bO L[k].2.1=some b:=fun b a=>cN.2 ⟨v,g,a⟩
 have j:∀b,K b->some b≠v.ownBlock:=fun b a e=>(h.aD3 k c).1 b (own b e.symm) a
 have t:=Pj h.aDz d (fun b a=>dS h.aDz l.1 qe a) c (y:=({L[k].1 with aDE:=f},some v,L[k].2.2)) j
  (fun i n z=>⟨fun b a e=>((h.beside c).1 b (own b e.symm) i n).1 z a,fun b a e=>((h.beside c).1 b (own b e.symm) i n).2 a⟩)
  (by
    rintro r ⟨E,F,rfl,A,B,C,o,p5⟩;rw[g] at o;obtain⟨p,q1,m,D⟩:=o;subst p;refine⟨E,F,rfl,A,B,C,⟨rfl,q,fun b a=>⟨(m b a).1,lL (m b a).2.1 d.size,(m b a).2.2⟩,by rw[hlen];exact D⟩,?_⟩;exact p5.aEc cC d j (fun b a e=>((h.beside c).1 b (own b e.symm) k c).2 a) (fun b a _=>⟨a.1,lL a.2.1 d.size,a.2.2⟩))
 exact {aEb:=h.aEb,aDI:=h.aDI,aDL:=h.aDL,all:=tR h.all k ({L[k].1 with aDE:=f},some v,L[k].2.2),aD0:=zZ (x:=({L[k].1 with aDE:=f},some v,L[k].2.2)) h.aD0 (h.aD0 k c),apart:=xG (x:=({L[k].1 with aDE:=f},some v,L[k].2.2)) h.apart c h.lt (fun b a=> .inl (by rw[g];exact a)) (fun b a=> .inl a),aDz:=t,aDC:=h.aDC.stays cV d (fun b a=>dS h.aDC l.1 qe a) (fun _ h _=>h.elim),aDG:=h.aDG.stays eB d (fun b a=>dS h.aDG l.1 qe a) (fun _ h _=>h.elim),aDM:=h.aDM.aEc dC d j (fun b e=>by obtain⟨u,h2,h3⟩:=h.rol e;exact dS h3 l.1 qe h2) (fun _ h _=>h),aDA:=h.aDA.aDH (d.mono fun b _ a=>j b a),kept:=fun b a=>⟨lL (h.kept b a).1 d.size,(h.kept b a).2⟩,aD3:=AB (x:=({L[k].1 with aDE:=f},some v,L[k].2.2)) h.aD3 ⟨fun b a=>(h.aD3 k c).1 b (by rw[g];exact a),(h.aD3 k c).2⟩,size:=lT h.size d.size}
theorem bC.close(h:bC K base w s L ro vc (.slice (some ⟨g,0,none⟩) n c) vn vo vt vu vk vb)(m:k<s.aDC.length){b:Bool}:
 bC K base (w.setCell ⟨g,k * 7+6,none⟩ (.bool b)) {s with aDC:=s.aDC.set k {s.aDC[k] with open_:=b}} L ro vc (.slice (some ⟨g,0,none⟩) n c) vn vo vt vu vk vb:=by
 have a:=aM.setAt cV (j:=6) (x:= .bool b) (y:={s.aDC[k] with open_:=b}) h.aDC m qe (by rintro r ⟨rfl,p⟩;exact⟨rfl,p⟩);have f:w.grownBy (w.setCell ⟨g,k * 7+6,none⟩ (.bool b)) (some g):=by
  have h1:=aI (w:=w) (g:=g) (i:=k * 7+6) (.bool b);exact⟨h1.os,h1.tape,h1.output,h1.size,fun i l o=>h1.block i l (fun e=>o (by rw[e]))⟩
 exact h.aDV f a (fun b d=> .inl d)
theorem bC.insert(h:bC K base w s L ro vc vr vn vo vt vu vk vb)(E:k<=L.length){xs cs:List Value}(J:w.ownsRow base 104 5 vc L.length xs/\aW (eA base K w (fun b=>(K b\/base<=b)/\b<w.heap.size/\some b≠vc.ownBlock)) xs L)
 {x:Mix}(I:eA base K w (fun b=>(K b\/base<=b)/\b<w.heap.size/\some b≠vc.ownBlock) cs x)(H:x.2.2.isSome=true){m:Nat}(hm:∀j (hj:j<L.length),(∀b,bO L[j].2.1=some b->b<m)/\(∀b,bO L[j].2.2=some b->b<m))(h1:∀b,bO x.2.1=some b->m<=b)(h2:∀b,bO x.2.2=some b->m<=b)(p:∀b,K b->m<=b->bO x.2.1≠some b/\bO x.2.2≠some b)
 {A:oD}{f:Nat}(G:w'.ownsRow base 104 5 (.slice A (L.length+1) f) (L.length+1) (xs.take (k * 5)++cs++xs.drop (k * 5)))(D:w.grownBy w' vc.ownBlock)(q:∀b,(Value.slice A (L.length+1) f).ownBlock=some b->vc.ownBlock=some b\/w.heap.size<=b)
 (t:∀b,bO x.2.1=some b\/bO x.2.2=some b->some b≠vc.ownBlock):
 bC K base w' {s with aDz:=s.aDz.take k++[x.1]++s.aDz.drop k} (L.take k++[x]++L.drop k) ro (.slice A (L.length+1) f) vr vn vo vt vu vk vb:=by
 have d:=cZ D;have l:∀b,K b->some b≠vc.ownBlock:=fun b a=>(h.kept b a).2.1
 have y:(L.take k++[x]++L.drop k).length=L.length+1:=by simp only[aL,List.length_take,List.length_drop,List.length_cons,List.length_nil];omega
 have F:∀b,(K b\/base<=b)/\b<w.heap.size/\some b≠vc.ownBlock->b<w.heap.size->(K b\/base<=b)/\b<w'.heap.size/\some b≠(Value.slice A (L.length+1) f).ownBlock:=fun b a _=>⟨a.1,lL a.2.1 d.size,fun e=>by
  rcases q b e.symm with h3|h3
  .exact a.2.2 h3.symm
  .have:=a.2.1;omega⟩
 have C:∀r z,(z=x\/∃j,∃hj:j<L.length,z=L[j])->eA base K w (fun b=>(K b\/base<=b)/\b<w.heap.size/\some b≠vc.ownBlock) r z->eA base K w' (fun b=>(K b\/base<=b)/\b<w'.heap.size/\some b≠(Value.slice A (L.length+1) f).ownBlock) r z:=fun r z v g=>by
  refine zW g d l (fun b a=> ?_) (fun b a=> ?_) F
  .rcases v with rfl|⟨j,hj,rfl⟩
   .exact t b (.inl a)
   .obtain⟨u,_,_,_,h5⟩:=h.aEg hj a;exact h5
  .rcases v with rfl|⟨j,hj,rfl⟩
   .exact t b (.inr a)
   .obtain⟨u,_,_,_,h5⟩:=h.aEh hj a;exact h5
 have B:aW (eA base K w (fun b=>(K b\/base<=b)/\b<w.heap.size/\some b≠vc.ownBlock)) (xs.take (k * 5)++cs++xs.drop (k * 5)) (L.take k++[x]++L.drop k):=by
  have h3:=J.2.split (fun r x g=>(dP base K).len g) k E;exact(h3.1.append (aW.one I)).append h3.2
 have o:∀i (c:i<(L.take k++[x]++L.drop k).length),(L.take k++[x]++L.drop k)[i]=x\/∃j,∃hj:j<L.length,(L.take k++[x]++L.drop k)[i]=L[j]:=fun i c=>by
  have h3:=List.getElem_mem c
  rcases List.mem_append.1 h3 with h4|h4
  .rcases List.mem_append.1 h4 with h5|h5
   .obtain⟨j,hj,e⟩:=List.getElem_of_mem (List.mem_of_mem_take h5);exact .inr ⟨j,hj,e.symm⟩
   .exact .inl (by simpa using h5)
  .obtain⟨j,hj,e⟩:=List.getElem_of_mem (List.mem_of_mem_drop h4);exact .inr ⟨j,hj,e.symm⟩
 refine {aEb:=h.aEb,aDI:=h.aDI,aDL:=h.aDL,all:= ?_,aD0:=fun j hj=> ?_,apart:=Iu h.apart hm h1 h2,aDz:=⟨_,by rw[y];exact G,aW.aEf (fun i c r g=>C r _ (o i c) g) B⟩,aDC:=h.aDC.stays cV d (fun b a=>dS h.aDC h.aDz qe a) (fun _ h _=>h.elim),aDG:=h.aDG.stays eB d (fun b a=>dS h.aDG h.aDz qe a) (fun _ h _=>h.elim),aDM:=h.aDM.aEc dC d l (fun b e=>by obtain⟨u,h2,h3⟩:=h.rol e;exact dS h3 h.aDz qe h2) (fun _ h _=>h),aDA:=h.aDA.aDH (d.mono fun b _ a=>l b a),kept:=fun b a=>⟨lL (h.kept b a).1 d.size,fun e=> ?_,(h.kept b a).2.2⟩,aD3:=fun j hj=> ?_,size:=lT h.size d.size}
 .rw[List.map_append,List.map_append,List.map_take,List.map_drop,h.all];rfl
 .rcases o j hj with e|⟨i,c,e⟩
  .rw[e];exact H
  .rw[e];exact h.aD0 i c
 .rcases q b e.symm with h3|h3
  .exact l b a h3.symm
  .have:=(h.kept b a).1;omega
 .rcases o j hj with e|⟨i,c,e⟩
  .rw[e];exact⟨fun b a n=>(p b n (h1 b a)).1 a,fun b a n=>(p b n (h2 b a)).2 a⟩
  .rw[e];exact h.aD3 i c
end
def AD(o:Option cG)(w:World)(e:Ending)(w':World):Prop:=(o=none/\e=.returned (.tuple #[.agg #[.string ⟨#[]⟩,.string ⟨#[]⟩,.string ⟨#[]⟩,.slice none 0 0,.slice none 0 0],.bool false])/\Below w.heap.size w w')\/(∃c a b,o=some c/\e=.returned (.tuple #[.agg #[.string c.id,.string c.aD2,.string c.aDU,a,b],.bool true])/\UE c w a b w')
theorem DF{ok:nP}(s:Sto)(vc vr vn vo vt vu vk vb:Value)(N:bY)(w:World)(h:fM w ok s vc vr vn vo vt vu vk vb):Calls prog 35 #[.agg (aX s vc vr vn vo vt vu vk vb),.string N] w (AD (dU s N) w):=by
 obtain⟨Y,Z,ra,rc,na,nc,oa,oc,ta,tc,ua,uc,ka,kc,W,X,rfl,_,rfl,_,rfl,_,rfl,_,rfl,_,rfl,_,rfl,_,rfl,_⟩:=h.sl;obtain⟨W0,g⟩:=xE ((w.alloc (.cells (fT s Y Z ra rc na nc oa oc ta tc ua uc ka kc W X) 58)).alloc (.cells #[.string ⟨#[]⟩,.string ⟨#[]⟩,.string ⟨#[]⟩,.slice none 0 0,.slice none 0 0] 104));have j:Hid (Below w.heap.size w W0):=aA (by rw[g];exact aC (aB _ _) (aB _ _));have A:Hid (W0.heap[w.heap.size]? =some (.cells (fT s Y Z ra rc na nc oa oc ta tc ua uc ka kc W X) 58 (0,0))):=aA (by rw[g];exact aE (aK _ _ _ rfl) (aB _ _));have R:Hid (W0.heap[w.heap.size+1]? =some (.cells #[.string ⟨#[]⟩,.string ⟨#[]⟩,.string ⟨#[]⟩,.slice none 0 0,.slice none 0 0] 104 (0,0))):=aA (by rw[g];exact aK _ _ _ qs);obtain⟨ag,n,O,m⟩:=dE g (IY s _ _ _ _ _ _ _ _ N W0 (h.on j.o)) (aH.on dV h.aDz j.o) (EX s N);obtain⟨⟨i,b⟩,hF⟩:∃F,aV s N=F:=⟨_,rfl⟩;rw[hF] at m n;unfold aP at n;unfold aX at *;have ao:=aA j.o;obtain⟨⟨a0,a1,a2,a3,a4,a5,a6,a7,a8,a9,ah,ai,a12⟩,_⟩:=bV A.o;have za:=aD A.o;clear h g hF;go_enter func35,ntmps35;go_wp2_with fail;rw[<-ag.o];refine n.o.mono ?_;rintro e w1 ⟨rfl,a⟩;have l:=qB j a;have ad:=aA (O.o.on dV a);clear a0 a1 a2 a3 a4 a5 a6 a7 a8 a9 ah ai a12 za;replace A:=qK A a;obtain⟨⟨y,z,E,G,H,I,J,K,L,M,B,C,D⟩,_⟩:=bV A.o;have zA:=aD A.o;replace R:=qK R a;obtain⟨⟨Q,S,T,U,V⟩,_⟩:=dM R.o;have x:=aD R.o;clear a n O
 rcases m.o with ⟨d,f⟩|⟨k,hk,d,f⟩
 .replace f:b=false:=f;subst f;have q:=aA d;clear m d;have f0:=aR R.o 0;have f1:=aR R.o 1;have f2:=aR R.o 2;have f3:=aR R.o 3;have f4:=aR R.o 4;go_wp2;refine bR (.tuple #[.agg #[.string ⟨#[]⟩,.string ⟨#[]⟩,.string ⟨#[]⟩,.slice none 0 0,.slice none 0 0],.bool false]) ?_;exact .inl ⟨q.o,rfl,Ak l.o (Nat.le_succ _)⟩
 .injection d with d e3;subst d e3;obtain⟨b,off,r,rfl,_,aq,⟨vf,vl,rfl,o⟩,aa⟩:=aH.at dV ad.o hk qe;obtain⟨fa,fc,rfl,_⟩:=o.2.2.2.1.slice;obtain⟨la,lc,rfl,_⟩:=o.2.2.2.2.slice;obtain⟨x0,x1,x2,x3,x4⟩:=JW aa;rw[Nat.add_zero] at x0;have ar:(i:Int)<(s.aDz.length:Int):=qo;have q:=aA f;clear m aa f;generalize s.aDz[i]=c at *;have p:=aA (FX c _ _ w1 o);unfold xY UE at p;clear o;go_wp2_with fail;refine p.o.mono ?_;rintro e w2 ⟨au,av,rfl,t,v,a⟩;obtain⟨aj,ak,rfl⟩:=t.slice;obtain⟨al,an,rfl⟩:=v.slice;have P:Hid (w.heap.size+1<w1.heap.size):=aA x;obtain⟨ae,af,ab⟩:=aY t v (aC l.o a)
  try clear y z E G H I J K L M B C D zA
  replace A:=qK A a;obtain⟨⟨y,z,E,G,H,I,J,K,L,M,B,C,D⟩,_⟩:=bV A.o;have zA:=aD A.o
  try clear Q S T U V x
  replace R:=qK R a;obtain⟨⟨Q,S,T,U,V⟩,_⟩:=dM R.o;have x:=aD R.o;have f0:=aR R.o 0;have f1:=aR R.o 1;have f2:=aR R.o 2;have f3:=aR R.o 3;have f4:=aR R.o 4;clear p t v a x0 x1 x2 x3 x4;go_wp2;refine bR (.tuple #[.agg #[.string c.id,.string c.aD2,.string c.aDU,.slice aj c.aDE.length ak,.slice al c.log.length an],.bool true]) ?_;refine .inr ⟨c,_,_,q.o,rfl,aM.less ?_ l.o.size,aM.less ?_ l.o.size,Ak ab.o (Nat.le_succ _)⟩
  .repeat (refine aM.aEy bP ?_ P.o zU)
   exact ae.o
  .repeat (refine aM.aEy cC ?_ P.o zU)
   exact af.o
theorem wI{L:List Tok}{p:PS}(T:Toks L)(hp:p.at_<L.length)(g:Nat)(w:World)(h:PW L w g p):
 Calls prog 263 #[.pointer (some ⟨g,0,none⟩)] w (eT L g w (oJ (cE L p).1) (cE L p).2):=by
 have P:=h.lt;have H:=aA h;have h1:=dR T [str "subject",str "action",str "case",str "env"] hp;have h2:=gA T (str ".") h1.lt;have h3:=jG T h2.lt;have n:=aA (fun a c w h hw=>nE T [str "subject",str "action",str "case",str "env"] a c 4 rfl qe hp g w h hw);have o:=aA (fun w h=>mI T (str ".") h1.lt g w h);have D:=aA (fun w h=>rF T h2.lt g w h);have q:=aA (fun w h=>eO T (str "!") h3.lt g w h);unfold eT cE;dsimp only;clear h h1 h2 h3;generalize aZ L [str "subject",str "action",str "case",str "env"] p=m at *;generalize eJ L (str ".") m.2=I at *;generalize bS L I=s at *;generalize kO L (str "!") s.2=J at *;rw[Hv,Ou,Yo,aAF] at n;rw[aAE] at o;rw[Yn] at q;go_enter func263,ntmps263;go_wp2_with fail;obtain⟨b0,b1,Q,r⟩:=rH (w:=w) (aB ((w.alloc (.cells #[.int .i64 0,.string ⟨#[]⟩,.bool false] 268)).alloc (.cells #[.int .i64 0,.string ⟨#[]⟩,.bool false] 268)) (.cells #[.string ⟨#[115,117,98,106,101,99,116]⟩,.string ⟨#[97,99,116,105,111,110]⟩,.string ⟨#[99,97,115,101]⟩,.string ⟨#[101,110,118]⟩] 9));have z:Hid (dA w.heap.size g w _):=aA (aJ r);refine(n.o _ _ _ (H.o.on r) (nF _ _ _ _ _ qs rfl)).mono ?_;rintro e w1 ⟨rfl,h1,i⟩;have A:=aA (z.o.aDQ i);have b0:=aF b0 i qo;have b1:=aF b1 i qo;obtain⟨⟨t,v,x⟩,f0,f1,f2⟩:=cD b1;obtain⟨f,d,H1⟩:=aY b0 b1 h1;clear n z H r i h1 b0 b1;go_wp2_with fail;refine(o.o _ (H1.o.set qo)).mono ?_;rintro e w2 ⟨rfl,h2,j⟩;obtain⟨B,f,d,E⟩:=dE ((A.o.set (b:=w.heap.size+1) qo).aDQ j) (aF (bE f.o qo) j qo) (aF (aG d.o 0 _) j qo:w2.heap[w.heap.size+1]? =some (.cells #[.int .i64 m.1,.string ⟨#[]⟩,.bool false] 268 (0,0))) (D.o _ h2)
 clear o A H1 h2 j D t v x f0 f1 f2;go_wp2_with fail;refine(E.o).mono ?_;rintro e S ⟨rfl,h3,k⟩;obtain⟨C,f,d⟩:=aY (B.o.aDQ k) (aF f.o k qo) (aF d.o k qo);obtain⟨⟨t,v,x⟩,f0,f1,f2⟩:=cD d.o;have y:=aA h3;clear E B h3 k;go_wp2_with fail;refine(q.o _ (y.o.set qo)).mono ?_;rintro e K ⟨rfl,h4,l⟩;obtain⟨G,f,d⟩:=aY ((C.o.set (b:=w.heap.size+1) qo).aDQ l) (aF (bE f.o qo) l qo) (aF (aG d.o 1 _) l qo:K.heap[w.heap.size+1]? =some (.cells #[.int .i64 m.1,.string s.1,.bool false] 268 (0,0)));obtain⟨⟨U,V,W⟩,g0,g1,g2⟩:=cD d.o;obtain⟨⟨z0,X,z2⟩,M,N,O⟩:=cD f.o;have R:=aD d.o;have F:=aA h4;clear q C y h4 l t v x f0 f1 f2;go_wp2;refine bR (.agg #[.int .i64 m.1,.string s.1,.bool J.1]) ?_;refine⟨rfl,?_,?_⟩
 .exact(((F.o.set qo).set qo).set qo).set qo
 .exact dA.end ((((G.o.set qo).set qo).set qo).set qo)
theorem Tr{p:Prop}(h:p:=by
 refine⟨rfl,?_,?_⟩
 .exact(((((H1.o.step (by go_num)).set qo).set qo).set qo).alloc).alloc
 .exact dA.end ((((((dA.step (aJ HB1.o)).set qo).set qo).set qo).alloc).alloc)):p:=h
theorem Ts{p:Prop}(h:p:=by
 rw[iP hb];have db:(p.bad != 0)=true:=bne_iff_ne.2 hb;clear hb;go_enter func264,ntmps264;go_wp2_with fail;refine(HH.o _ (H.o.on (aB w _))).mono ?_;rintro e w1 ⟨rfl,hb1⟩;have HB0:=aA (aE (heap_alloc_new w (.cells fV 27)) hb1);have HB1:=aA (aC (aB w (.cells fV 27)) hb1);have h1:=H.o.on HB1.o;obtain⟨A,c,c0,c1,c2,c3,c4,hs⟩:=h1.cells;have f1:=h1.free 1;have hgl1:=h1.lt;obtain⟨⟨y0,y1,y2⟩,g0,g1,g2⟩:=cD HB0.o;have hz1:=aD HB0.o;have H1:=aA h1;clear hb1 hs h1 c0 c2 c4 HH H;go_wp2;refine bR (.agg #[.int .i64 0,.int .i64 0,.string ⟨#[]⟩]) ?_;refine⟨rfl,?_,?_⟩
 .exact((((H1.o.set qo).set qo).set qo).alloc).alloc
 .exact dA.end (((((dA.set (aJ HB1.o) qo).set qo).set qo).alloc).alloc)):p:=h
theorem nO{L:List Tok}{p:PS}{v:V3}{q:PS}(h:eS L p=(v,q)):dB L p=if q.bad≠0 then (bD,q) else (v,{q with at_:=q.at_+1}):=by rw[zJ,h]
theorem Vt{L:List Tok}{p:PS}(hp:p.at_<L.length)(d:L.length<=5000)(g:Nat)(w:World)(h:PW L w g p)(a:(aU L p).aDy=2):
 Calls prog 264 #[.pointer (some ⟨g,0,none⟩)] w (eT L g w (dD (dB L p).1) (dB L p).2):=by
 have f:=h.lt;have H:=aA h;have HH:=aA (fun w h=>gJ hp d g w h);have b:eS L p=((2,(aU L p).num,(aU L p).str),p):=by
  unfold eS;dsimp only;rw[iP a]
 rw[nO b];unfold eT;unfold iC at HH;generalize aU L p=t at *;clear h b;have d2:(t.aDy==2)=true:=bQ.2 a;clear a;have i:(0:Int)<=p.at_:=qo;have i2:(p.at_:Int)<=5000:=qo;by_cases hb:p.bad=0
 .rw[iN (fun h=>h hb)];go_enter func264,ntmps264;go_wp2_with fail;refine(HH.o _ (H.o.on (aB w _))).mono ?_;rintro e w1 ⟨rfl,hb1⟩;have HB0:=aA (aE (heap_alloc_new w (.cells fV 27)) hb1);have HB1:=aA (aC (aB w (.cells fV 27)) hb1);have h1:=H.o.on HB1.o;obtain⟨A,c,c0,c1,c2,c3,c4,hs⟩:=h1.cells;have f1:=h1.free 1;have hgl1:=h1.lt;obtain⟨⟨y0,y1,y2⟩,g0,g1,g2⟩:=cD HB0.o;have hz1:=aD HB0.o;have H1:=aA h1;clear hb1 hs h1 c0 c2 c4 HH H;rw[hb] at c3;clear hb;go_wp2;refine bR (.agg #[.int .i64 2,.int .i64 t.num,.string t.str]) ?_;exact Tr
 .exact Ts
theorem Vu{L:List Tok}{p:PS}(hp:p.at_<L.length)(d:L.length<=5000)(g:Nat)(w:World)(h:PW L w g p)(a:(aU L p).aDy=3):
 Calls prog 264 #[.pointer (some ⟨g,0,none⟩)] w (eT L g w (dD (dB L p).1) (dB L p).2):=by
 have f:=h.lt;have H:=aA h;have HH:=aA (fun w h=>gJ hp d g w h);have b:eS L p=((4,(aU L p).num,(aU L p).str),p):=by
  unfold eS;dsimp only;rw[iN qo];rw[iP a]
 rw[nO b];unfold eT;unfold iC at HH;generalize aU L p=t at *;clear h b;have d2:(t.aDy==2)=false:=bN.2 qo;have d3:(t.aDy==3)=true:=bQ.2 a;clear a;have i:(0:Int)<=p.at_:=qo;have i2:(p.at_:Int)<=5000:=qo;by_cases hb:p.bad=0
 .rw[iN (fun h=>h hb)];go_enter func264,ntmps264;go_wp2_with fail;refine(HH.o _ (H.o.on (aB w _))).mono ?_;rintro e w1 ⟨rfl,hb1⟩;have HB0:=aA (aE (heap_alloc_new w (.cells fV 27)) hb1);have HB1:=aA (aC (aB w (.cells fV 27)) hb1);have h1:=H.o.on HB1.o;obtain⟨A,c,c0,c1,c2,c3,c4,hs⟩:=h1.cells;have f1:=h1.free 1;have hgl1:=h1.lt;obtain⟨⟨y0,y1,y2⟩,g0,g1,g2⟩:=cD HB0.o;have hz1:=aD HB0.o;have H1:=aA h1;clear hb1 hs h1 c0 c2 c4 HH H;rw[hb] at c3;clear hb;go_wp2;refine bR (.agg #[.int .i64 4,.int .i64 t.num,.string t.str]) ?_;exact Tr
 .exact Ts
theorem Vv{L:List Tok}{p:PS}(hp:p.at_<L.length)(d:L.length<=5000)(g:Nat)(w:World)(h:PW L w g p)(a:(aU L p).aDy=4):
 Calls prog 264 #[.pointer (some ⟨g,0,none⟩)] w (eT L g w (dD (dB L p).1) (dB L p).2):=by
 have f:=h.lt;have H:=aA h;have HH:=aA (fun w h=>gJ hp d g w h);have b:eS L p=((5,(aU L p).num,(aU L p).str),p):=by
  unfold eS;dsimp only;rw[iN qo];rw[iN qo];rw[iP a]
 rw[nO b];unfold eT;unfold iC at HH;generalize aU L p=t at *;clear h b;have d2:(t.aDy==2)=false:=bN.2 qo;have d3:(t.aDy==3)=false:=bN.2 qo;have d4:(t.aDy==4)=true:=bQ.2 a;clear a;have i:(0:Int)<=p.at_:=qo;have i2:(p.at_:Int)<=5000:=qo;by_cases hb:p.bad=0
 .rw[iN (fun h=>h hb)];go_enter func264,ntmps264;go_wp2_with fail;refine(HH.o _ (H.o.on (aB w _))).mono ?_;rintro e w1 ⟨rfl,hb1⟩;have HB0:=aA (aE (heap_alloc_new w (.cells fV 27)) hb1);have HB1:=aA (aC (aB w (.cells fV 27)) hb1);have h1:=H.o.on HB1.o;obtain⟨A,c,c0,c1,c2,c3,c4,hs⟩:=h1.cells;have f1:=h1.free 1;have hgl1:=h1.lt;obtain⟨⟨y0,y1,y2⟩,g0,g1,g2⟩:=cD HB0.o;have hz1:=aD HB0.o;have H1:=aA h1;clear hb1 hs h1 c0 c2 c4 HH H;rw[hb] at c3;clear hb;go_wp2;refine bR (.agg #[.int .i64 5,.int .i64 t.num,.string t.str]) ?_;exact Tr
 .exact Ts
theorem Vw{L:List Tok}{p:PS}(hp:p.at_<L.length)(d:L.length<=5000)(g:Nat)(w:World)(h:PW L w g p)(a:(aU L p).aDy=5):
 Calls prog 264 #[.pointer (some ⟨g,0,none⟩)] w (eT L g w (dD (dB L p).1) (dB L p).2):=by
 have f:=h.lt;have H:=aA h;have HH:=aA (fun w h=>gJ hp d g w h);have b:eS L p=((3,(aU L p).num,(aU L p).str),p):=by
  unfold eS;dsimp only;rw[iN qo];rw[iN qo];rw[iN qo];rw[iP a]
 rw[nO b];unfold eT;unfold iC at HH;generalize aU L p=t at *;clear h b;have d2:(t.aDy==2)=false:=bN.2 qo;have d3:(t.aDy==3)=false:=bN.2 qo;have d4:(t.aDy==4)=false:=bN.2 qo;have d5:(t.aDy==5)=true:=bQ.2 a;clear a;have i:(0:Int)<=p.at_:=qo;have i2:(p.at_:Int)<=5000:=qo;by_cases hb:p.bad=0
 .rw[iN (fun h=>h hb)];go_enter func264,ntmps264;go_wp2_with fail;refine(HH.o _ (H.o.on (aB w _))).mono ?_;rintro e w1 ⟨rfl,hb1⟩;have HB0:=aA (aE (heap_alloc_new w (.cells fV 27)) hb1);have HB1:=aA (aC (aB w (.cells fV 27)) hb1);have h1:=H.o.on HB1.o;obtain⟨A,c,c0,c1,c2,c3,c4,hs⟩:=h1.cells;have f1:=h1.free 1;have hgl1:=h1.lt;obtain⟨⟨y0,y1,y2⟩,g0,g1,g2⟩:=cD HB0.o;have hz1:=aD HB0.o;have H1:=aA h1;clear hb1 hs h1 c0 c2 c4 HH H;rw[hb] at c3;clear hb;go_wp2;refine bR (.agg #[.int .i64 3,.int .i64 t.num,.string t.str]) ?_;exact Tr
 .exact Ts
theorem QBA{p:Prop}(h:p:=by
 refine⟨rfl,?_,?_⟩
 .exact(((((((H2.o.set qo).set qo).set qo).step (by go_num)).set qo).set qo).set qo)
 .exact dA.end (((((((HK2.o.set qo).set qo).set qo).step).set qo).set qo).set qo)):p:=h
theorem MY(w:World)(A B:Obj):((w.alloc A).alloc B).heap[w.heap.size]? =some A/\((w.alloc A).alloc B).heap[w.heap.size+1]? =some B/\w.heap.size+1<((w.alloc A).alloc B).heap.size/\Below w.heap.size w ((w.alloc A).alloc B):=rH (Below.refl _ _)
theorem Vx{L:List Tok}{p:PS}(hp:p.at_<L.length)(f:L.length<=5000)(g:Nat)(w:World)(h:PW L w g p)(m:(aU L p).aDy≠2)(n:(aU L p).aDy≠3)(o:(aU L p).aDy≠4)(r:(aU L p).aDy≠5)(i:cM L (str "true") p=true):
 Calls prog 264 #[.pointer (some ⟨g,0,none⟩)] w (eT L g w (dD (dB L p).1) (dB L p).2):=by
 have G:=h.lt;have H:=aA h;have k:=aA (fun w h=>gJ hp f g w h);have d:=aA (fun w h=>oS (str "true") hp f g w h);have y:=aA (fun w h=>oS (str "false") hp f g w h);have C:=aA (fun w h=>lX hp f g w h);have E:=aA (show (dL L p).bad≠0 from lV 5 _ qe p);have z:eS L p=((1,1,ByteArray.empty),p):=by
  unfold eS;dsimp only;rw[iN m,iN n,iN o,iN r,iP i]
 rw[nO z];have j:=aA (lJ i).1;rw[i] at d;rw[iN (fun h=>h j.o)];clear i;unfold eT;unfold iC at k;rw[CH] at d;rw[yO] at y;have d2:((aU L p).aDy==2)=false:=bN.2 m;have d3:((aU L p).aDy==3)=false:=bN.2 n;have d4:((aU L p).aDy==4)=false:=bN.2 o;have d5:((aU L p).aDy==5)=false:=bN.2 r;generalize dL L p=q at *;generalize aU L p=t at *;clear h z m n o r;have N:(0:Int)<=p.at_:=qo;have i2:(p.at_:Int)<=5000:=qo;go_enter func264,ntmps264;go_wp2_with fail;refine(k.o _ (H.o.on (aB w _))).mono ?_;rintro e w1 ⟨rfl,l⟩;have v:=aA (aE (heap_alloc_new w (.cells fV 27)) l);have x:=aA (aC (aB w (.cells fV 27)) l);have K:=aD v.o;have H1:=aA (H.o.on x.o);have I:=H1.o.lt;clear l k H;have a:=aA (MY w1 (.cells (oG t) 124) (.cells #[.int .i64 0,.int .i64 t.num,.string t.str] 27));go_wp2_with fail;refine(d.o _ (H1.o.on a.o.2.2.2)).mono ?_;rintro e w2 ⟨rfl,b⟩;obtain⟨B,s,HK2,H2⟩:=dE (aE (aE (aE v.o (aB w1 _)) (aB _ _)) b) (aE a.o.2.1 b) (show dA w.heap.size g w w2 from (aJ (aC (aC x.o a.o.2.2.2) b))) ((H1.o.on a.o.2.2.2).on b);obtain⟨A,c,c0,c1,c2,c3,c4,D⟩:=H2.o.cells;have f1:=H2.o.free 1;have J:=H2.o.lt;obtain⟨⟨R,S,T⟩,g0,g1,g2⟩:=cD B.o;obtain⟨⟨O,P,Q⟩,f0,F,f2⟩:=cD s.o;have M:=aD s.o;clear b D c0 c2 c4 d y C H1 a;rw[j.o] at c3;clear j;go_wp2;refine bR (.agg #[.int .i64 1,.int .i64 1,.string ⟨#[]⟩]) ?_;exact QBA
theorem Vy{L:List Tok}{p:PS}(hp:p.at_<L.length)(k:L.length<=5000)(g:Nat)(w:World)(h:PW L w g p)(v:(aU L p).aDy≠2)(x:(aU L p).aDy≠3)(y:(aU L p).aDy≠4)(z:(aU L p).aDy≠5)(s:cM L (str "true") p=false)(l:cM L (str "false") p=true):
 Calls prog 264 #[.pointer (some ⟨g,0,none⟩)] w (eT L g w (dD (dB L p).1) (dB L p).2):=by
 have J:=h.lt;have H:=aA h;have o:=aA (fun w h=>gJ hp k g w h);have j:=aA (fun w h=>oS (str "true") hp k g w h);have i:=aA (fun w h=>oS (str "false") hp k g w h);have E:=aA (fun w h=>lX hp k g w h);have G:=aA (show (dL L p).bad≠0 from lV 5 _ qe p);have D:eS L p=((1,0,ByteArray.empty),p):=by
  unfold eS;dsimp only;rw[iN v,iN x,iN y,iN z,iN (by rw[s];decide),iP l]
 rw[nO D];have n:=aA (lJ l).1;rw[l] at i;rw[s] at j;rw[iN (fun h=>h n.o)];clear l s;unfold eT;unfold iC at o;rw[CH] at j;rw[yO] at i;have d2:((aU L p).aDy==2)=false:=bN.2 v;have d3:((aU L p).aDy==3)=false:=bN.2 x;have d4:((aU L p).aDy==4)=false:=bN.2 y;have d5:((aU L p).aDy==5)=false:=bN.2 z;generalize dL L p=q at *;generalize aU L p=t at *;clear h D v x y z;have P:(0:Int)<=p.at_:=qo;have i2:(p.at_:Int)<=5000:=qo;go_enter func264,ntmps264;go_wp2_with fail;refine(o.o _ (H.o.on (aB w _))).mono ?_;rintro e w1 ⟨rfl,r⟩;have B:=aA (aE (heap_alloc_new w (.cells fV 27)) r);have C:=aA (aC (aB w (.cells fV 27)) r);have N:=aD B.o;have H1:=aA (H.o.on C.o);have K:=H1.o.lt;clear r o H;have a:=aA (MY w1 (.cells (oG t) 124) (.cells #[.int .i64 0,.int .i64 t.num,.string t.str] 27));go_wp2_with fail;refine(j.o _ (H1.o.on a.o.2.2.2)).mono ?_;rintro e w2 ⟨rfl,b⟩;obtain⟨m,f,HK2,H2⟩:=dE (aE (aE (aE B.o (aB w1 _)) (aB _ _)) b) (aE a.o.2.1 b) (show dA w.heap.size g w w2 from (aJ (aC (aC C.o a.o.2.2.2) b))) ((H1.o.on a.o.2.2.2).on b);go_wp2_with fail;refine(i.o _ H2.o).mono ?_;rintro e Q ⟨rfl,d⟩;clear b j;obtain⟨m,f,HK2,H2⟩:=dE (aE m.o d) (aE f.o d) (HK2.o.new d) (H2.o.on d);obtain⟨A,c,c0,c1,c2,c3,c4,F⟩:=H2.o.cells;have f1:=H2.o.free 1;have M:=H2.o.lt;obtain⟨⟨U,V,W⟩,g0,g1,g2⟩:=cD m.o;obtain⟨⟨R,S,T⟩,f0,I,f2⟩:=cD f.o;have O:=aD f.o;clear d F c0 c2 c4 i E H1 a;rw[n.o] at c3;clear n;go_wp2;refine bR (.agg #[.int .i64 1,.int .i64 0,.string ⟨#[]⟩]) ?_;exact QBA
theorem Vz{L:List Tok}{p:PS}(hp:p.at_<L.length)(o:L.length<=5000)(g:Nat)(w:World)(h:PW L w g p)(z:(aU L p).aDy≠2)(B:(aU L p).aDy≠3)(b:(aU L p).aDy≠4)(C:(aU L p).aDy≠5)(y:cM L (str "true") p=false)(x:cM L (str "false") p=false):
 Calls prog 264 #[.pointer (some ⟨g,0,none⟩)] w (eT L g w (dD (dB L p).1) (dB L p).2):=by
 have M:=h.lt;have H:=aA h;have r:=aA (fun w h=>gJ hp o g w h);have n:=aA (fun w h=>oS (str "true") hp o g w h);have m:=aA (fun w h=>oS (str "false") hp o g w h);have F:=aA (fun w h=>lX hp o g w h);have s:=aA (show (dL L p).bad≠0 from lV 5 _ qe p);have G:eS L p=((0,(aU L p).num,(aU L p).str),dL L p):=by
  unfold eS;dsimp only;rw[iN z,iN B,iN b,iN C,iN (by rw[y];decide),iN (by rw[x];decide)]
 rw[nO G];rw[x] at m;rw[y] at n;rw[iP s.o];clear x y;unfold eT;unfold iC at r;rw[CH] at n;rw[yO] at m;have d2:((aU L p).aDy==2)=false:=bN.2 z;have d3:((aU L p).aDy==3)=false:=bN.2 B;have d4:((aU L p).aDy==4)=false:=bN.2 b;have d5:((aU L p).aDy==5)=false:=bN.2 C;generalize dL L p=q at *;generalize aU L p=t at *;clear h G z B b C;have R:(0:Int)<=p.at_:=qo;have i2:(p.at_:Int)<=5000:=qo;go_enter func264,ntmps264;go_wp2_with fail;refine(r.o _ (H.o.on (aB w _))).mono ?_;rintro e w1 ⟨rfl,v⟩;have D:=aA (aE (heap_alloc_new w (.cells fV 27)) v);have E:=aA (aC (aB w (.cells fV 27)) v);have P:=aD D.o;have H1:=aA (H.o.on E.o);have N:=H1.o.lt;clear v r H;have j:=aA (MY w1 (.cells (oG t) 124) (.cells #[.int .i64 0,.int .i64 t.num,.string t.str] 27));go_wp2_with fail;refine(n.o _ (H1.o.on j.o.2.2.2)).mono ?_;rintro e w2 ⟨rfl,k⟩;obtain⟨f,d,i,a⟩:=dE (aE (aE (aE D.o (aB w1 _)) (aB _ _)) k) (aE j.o.2.1 k) (show dA w.heap.size g w w2 from (aJ (aC (aC E.o j.o.2.2.2) k))) ((H1.o.on j.o.2.2.2).on k);go_wp2_with fail;refine(m.o _ a.o).mono ?_;rintro e S ⟨rfl,l⟩;clear k n;obtain⟨f,d,i,a⟩:=dE (aE f.o l) (aE d.o l) (i.o.new l) (a.o.on l);go_wp2_with fail;refine(F.o _ a.o).mono ?_;rintro e T ⟨rfl,h4,b⟩;clear l m F;obtain⟨f,d,i,a⟩:=dE (aF f.o b qo) (aF d.o b qo) (i.o.aDQ b) h4;obtain⟨A,c,c0,c1,c2,c3,c4,I⟩:=a.o.cells;have f1:=a.o.free 1;have O:=a.o.lt;obtain⟨⟨X,Y,Z⟩,g0,g1,g2⟩:=cD f.o;obtain⟨⟨U,V,W⟩,f0,K,f2⟩:=cD d.o;have Q:=aD d.o;have J:(q.bad != 0)=true:=bne_iff_ne.2 s.o;clear I c0 c1 c2 c4 H1 j s h4 b;go_wp2
 refine bR (.agg #[.int .i64 0,.int .i64 0,.string ⟨#[]⟩]) ?_;refine⟨rfl,?_,?_⟩
 .exact((a.o.set qo).set qo).set qo
 .exact dA.end (((i.o.set qo).set qo).set qo)
theorem rZ{L:List Tok}{p:PS}(T:Toks L)(hp:p.at_<L.length)(g:Nat)(w:World)(h:PW L w g p):
 Calls prog 264 #[.pointer (some ⟨g,0,none⟩)] w (eT L g w (dD (dB L p).1) (dB L p).2):=by
 have a:=T.len;by_cases b:(aU L p).aDy=2
 .exact Vt hp a g w h b
 by_cases c:(aU L p).aDy=3
 .exact Vu hp a g w h c
 by_cases d:(aU L p).aDy=4
 .exact Vv hp a g w h d
 by_cases e:(aU L p).aDy=5
 .exact Vw hp a g w h e
 cases f:cM L (str "true") p
 .cases i:cM L (str "false") p
  .exact Vz hp a g w h b c d e f i
  .exact Vy hp a g w h b c d e f i
 .exact Vx hp a g w h b c d e f
end Go.Proofs.YtdfinmcogbkffaaGreatDoor
