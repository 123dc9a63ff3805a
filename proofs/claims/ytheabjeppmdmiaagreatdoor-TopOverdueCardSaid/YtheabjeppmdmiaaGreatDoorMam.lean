/- Lemmas. -/
import Derived.Test.YtheabjeppmdmiaaGreatDoorMal
namespace Go.Proofs.YtheabjeppmdmiaaGreatDoor
open Go.RowKit
set_option linter.unusedVariables false
set_option linter.unusedSimpArgs false
set_option maxHeartbeats 16000000
open _root_.Go.Proofs.Tryz
set_option maxRecDepth 20000
theorem QDc{p:Prop}(h:p:=by
 obtain⟨u,hu,hu2⟩:=cN.1 hb;injection hu with hu;subst hu;exact(hat b hu2).imp (own b) id):p:=h
theorem QCq{p:Prop}(h:p:=by
 obtain⟨u,hu,hu2⟩:=cN.1 hb;injection hu with hu;subst hu
 rcases hat b hu2 with h2|h2
 .exact hK b hKb h2.symm
 .have:=(h.kept b hKb).1;omega):p:=h
section
variable {K:nP} {base:Nat} {w w' w1:World} {s:Sto} {L:List Mix} {ro:Option Value} {vr vn vo vt vu vk vb:Value} {g n c k:Nat}
theorem bC.beside{vc:Value}(h:bC K base w s L ro vc vr vn vo vt vu vk vb)(d:k<L.length):(∀b,bO L[k].2.1=some b->∀j (hj:j<L.length),(j≠k->bO L[j].2.1≠some b)/\bO L[j].2.2≠some b)/\(∀b,bO L[k].2.2=some b->∀j (hj:j<L.length),(j≠k->bO L[j].2.2≠some b)/\bO L[j].2.1≠some b):=by
 have ha:=DN.1 h.apart;have ne:∀i j (f:i<L.length) (hj:j<L.length) b,bO L[i].2.1=some b->bO L[j].2.2=some b->False:=fun i j f hj b h1 h2=>by
  obtain⟨u,_,g,g1,_⟩:=h.aEp f h1;obtain⟨m,_,l,g2,_⟩:=h.aEq hj h2;exact dW g1 g2 qe g l.symm
 exact⟨fun b c j hj=>⟨fun e a=>(ha k j d hj (Ne.symm e)).1 b c a,fun a=>ne k j d hj b c a⟩,fun b c j hj=>⟨fun e a=>(ha k j d hj (Ne.symm e)).2 b c a,fun a=>ne j k hj d b a c⟩⟩
theorem tS{L:List Mix}{l:List cH}(h:L.map Prod.fst=l)(k:Nat)(x:Mix):(L.set k x).map Prod.fst=l.set k x.1:=by rw[List.map_set,h]
theorem bC.rest(h:bC K base w s L ro (.slice (some ⟨g,0,none⟩) n c) vr vn vo vt vu vk vb){q:nP}(f:aN q w w1)(k:∀b,K b->q b)(z:∀b,vr.ownBlock=some b->q b)(v:∀b,vn.ownBlock=some b->q b)(y:∀b,bO ro=some b->q b)
 {a:List Mix}{l':List cH}(m:a.map Prod.fst=l')(t:∀j (hj:j<a.length),a[j].2.2.isSome=true)(o:pS a)(r:∀j (hj:j<a.length),(∀b,bO a[j].2.1=some b->¬K b)/\(∀b,bO a[j].2.2=some b->¬K b)){i:Nat}{x:Value}
 (p:aM (eC base K) 5 99 (w1.setCell ⟨g,i,none⟩ x) base (fun b=>K b\/base<=b) (.slice (some ⟨g,0,none⟩) n c) a):bC K base (w1.setCell ⟨g,i,none⟩ x) {s with aDH:=l'} a ro (.slice (some ⟨g,0,none⟩) n c) vr vn vo vt vu vk vb:={
 aDP:=h.aDP
 aDT:=h.aDT
 all:=m
 aD9:=t
 apart:=o
 aDH:=p
 aDJ:=aM.off cV (h.aDJ.stays cV f z (fun _ h _=>h.elim)) (fun h=>h) (fun e=>dW h.aDJ h.aDH qe e rfl)
 aDO:=aM.off eD (h.aDO.stays eD f v (fun _ h _=>h.elim)) (fun h=>h) (fun e=>dW h.aDO h.aDH qe e rfl)
 aDU:=(h.aDU.aEk dD f k y (fun _ h _=>h)).aEk (q:=fun b=>b≠g) dD (aI x) (fun b d e=>(h.kept b d).2.1 (by rw[e];rfl)) (fun b e l=>by
  obtain⟨u,h2,h3⟩:=h.rol e;exact dW h3 h.aDH qe h2 (by rw[l];rfl)) (fun _ h _=>h)
 aDI:=(h.aDI.aDQ (f.mono fun b _ d=>k b d)).aDQ (fI (fun d=>(h.kept g d).2.1 rfl))
 kept:=fun b d=>⟨by rw[jQ];exact lL (h.kept b d).1 f.size,(h.kept b d).2⟩
 aEb:=r
 aEj:=h.aEj
 size:=by rw[jQ];exact lT h.size f.size}
theorem AI{L:List Mix}(h:∀j (hj:j<L.length),L[j].2.2.isSome=true){k:Nat}{x:Mix}(a:x.2.2.isSome=true):∀j (hj:j<(L.set k x).length),(L.set k x)[j].2.2.isSome=true:=by
 intro j hj;rw[List.length_set] at hj;rw[List.getElem_set];split
 .exact a
 .exact h j hj
theorem AJ{K:nP}{L:List Mix}(h:∀j (hj:j<L.length),(∀b,bO L[j].2.1=some b->¬K b)/\(∀b,bO L[j].2.2=some b->¬K b)){k:Nat}{x:Mix}(a:(∀b,bO x.2.1=some b->¬K b)/\(∀b,bO x.2.2=some b->¬K b)):∀j (hj:j<(L.set k x).length),(∀b,bO (L.set k x)[j].2.1=some b->¬K b)/\(∀b,bO (L.set k x)[j].2.2=some b->¬K b):=by
 intro j hj;rw[List.length_set] at hj;rw[List.getElem_set];split
 .exact a
 .exact h j hj
theorem bC.log(h:bC K base w s L ro (.slice (some ⟨g,0,none⟩) n c) vr vn vo vt vu vk vb)(a:k<L.length){v v':Value}(q:L[k].2.2=some v){d:List uC}(z:w.grownBy w1 v.ownBlock)(m:aM mZ 3 160 w1 base (fun _=>False) v' d)(hat:∀b,v'.ownBlock=some b->v.ownBlock=some b\/w.heap.size<=b)(hlen:d.length<=1000000):
 bC K base (w1.setCell ⟨g,k * 5+4,none⟩ v') {s with aDH:=s.aDH.set k {L[k].1 with log:=d}} (L.set k ({L[k].1 with log:=d},L[k].2.1,some v')) ro (.slice (some ⟨g,0,none⟩) n c) vr vn vo vt vu vk vb:=by
 have l:=cY z;have f:=(kK h.aDH a).2 v q;have H:g<w.heap.size:=(h.aDH.lt g rfl).2;have own:∀b,v.ownBlock=some b->bO L[k].2.2=some b:=fun b hb=>cN.2 ⟨v,q,hb⟩
 have hK:∀b,K b->some b≠v.ownBlock:=fun b hb e=>(h.aEb k a).2 b (own b e.symm) hb
 have o:some g≠v.ownBlock:=fun e=>f.2.1 g e.symm rfl
 have B:∀b,v'.ownBlock=some b->b≠g:=fun b hb e=>by
  rcases hat b hb with h2|h2
  .exact o (by rw[h2,e])
  .omega
 have t:=NS (v:=v') (y:=({L[k].1 with log:=d},L[k].2.1,some v')) h.aDH a (j:=4) qe l o hK
  (fun i p A=>⟨fun b hb e=>((h.beside a).2 b (own b e.symm) i p).2 hb,fun b hb e=>((h.beside a).2 b (own b e.symm) i p).1 A hb⟩)
  (by
    rintro r ⟨G,I,rfl,C,D,E,F,p5⟩;refine⟨G,v',rfl,C,D,E,?_,rfl,m,fun b hb=>⟨.inr (m.lt b hb).1,(m.lt b hb).2,B b hb⟩,hlen⟩;exact F.aEk bP l hK (fun b hb e=>((h.beside a).2 b (own b e.symm) k a).2 hb) (fun b hb _=>⟨hb.1,lL hb.2.1 l.size,hb.2.2⟩))
 refine h.rest l hK (fun b hb=>dW h.aDJ f.1 qe hb) (fun b hb=>dW h.aDO f.1 qe hb) (fun b e=> ?_) (tS h.all k ({L[k].1 with log:=d},L[k].2.1,some v')) (AI (x:=({L[k].1 with log:=d},L[k].2.1,some v')) h.aD9 rfl) (xI (x:=({L[k].1 with log:=d},L[k].2.1,some v')) h.apart a h.lt (fun b hb=> .inl hb) (fun b hb=> ?_)) (AJ (x:=({L[k].1 with log:=d},L[k].2.1,some v')) h.aEb ⟨(h.aEb k a).1,fun b hb hKb=> ?_⟩) t
 .obtain⟨u,h2,h3⟩:=h.rol e;exact dW h3 f.1 qe h2
 .exact QDc
 .exact QCq
theorem bC.aDM(h:bC K base w s L ro (.slice (some ⟨g,0,none⟩) n c) vr vn vo vt vu vk vb)(a:k<L.length){v v':Value}(q:L[k].2.1=some v){d:List pY}(z:w.grownBy w1 v.ownBlock)(m:aM lN 4 172 w1 base (fun _=>False) v' d)(hat:∀b,v'.ownBlock=some b->v.ownBlock=some b\/w.heap.size<=b)(hlen:d.length<=1000000):
 bC K base (w1.setCell ⟨g,k * 5+3,none⟩ v') {s with aDH:=s.aDH.set k {L[k].1 with aDM:=d}} (L.set k ({L[k].1 with aDM:=d},some v',L[k].2.2)) ro (.slice (some ⟨g,0,none⟩) n c) vr vn vo vt vu vk vb:=by
 have l:=cY z;have f:=(kK h.aDH a).1 v q;have G:g<w.heap.size:=(h.aDH.lt g rfl).2;have own:∀b,v.ownBlock=some b->bO L[k].2.1=some b:=fun b hb=>cN.2 ⟨v,q,hb⟩
 have hK:∀b,K b->some b≠v.ownBlock:=fun b hb e=>(h.aEb k a).1 b (own b e.symm) hb
 have o:some g≠v.ownBlock:=fun e=>f.2.1 g e.symm rfl
 have B:∀b,v'.ownBlock=some b->b≠g:=fun b hb e=>by
  rcases hat b hb with h2|h2
  .exact o (by rw[h2,e])
  .omega
 have t:=NS (v:=v') (y:=({L[k].1 with aDM:=d},some v',L[k].2.2)) h.aDH a (j:=3) qe l o hK
  (fun i p A=>⟨fun b hb e=>((h.beside a).1 b (own b e.symm) i p).1 A hb,fun b hb e=>((h.beside a).1 b (own b e.symm) i p).2 hb⟩)
  (by
    rintro r ⟨I,F,rfl,C,D,E,H,p5⟩;refine⟨v',F,rfl,C,D,E,⟨rfl,m,fun b hb=>⟨.inr (m.lt b hb).1,(m.lt b hb).2,B b hb⟩,hlen⟩,?_⟩;exact p5.aEk cD l hK (fun b hb e=>((h.beside a).1 b (own b e.symm) k a).2 hb) (fun b hb _=>⟨hb.1,lL hb.2.1 l.size,hb.2.2⟩))
 refine h.rest l hK (fun b hb=>dW h.aDJ f.1 qe hb) (fun b hb=>dW h.aDO f.1 qe hb) (fun b e=> ?_) (tS h.all k ({L[k].1 with aDM:=d},some v',L[k].2.2)) (AI (x:=({L[k].1 with aDM:=d},some v',L[k].2.2)) h.aD9 (h.aD9 k a)) (xI (x:=({L[k].1 with aDM:=d},some v',L[k].2.2)) h.apart a h.lt (fun b hb=> ?_) (fun b hb=> .inl hb)) (AJ (x:=({L[k].1 with aDM:=d},some v',L[k].2.2)) h.aEb ⟨fun b hb hKb=> ?_,(h.aEb k a).2⟩) t
 .obtain⟨u,h2,h3⟩:=h.rol e;exact dW h3 f.1 qe h2
 .exact QDc
 .exact QCq
theorem bC.aD2(h:bC K base w s L ro (.slice (some ⟨g,0,none⟩) n c) vr vn vo vt vu vk vb)(a:k<L.length){to_:bY}(i:to_.size<=cQ):
 bC K base (w.setCell ⟨g,k * 5+2,none⟩ (.string to_)) {s with aDH:=s.aDH.set k {L[k].1 with aD2:=to_}} (L.set k ({L[k].1 with aD2:=to_},L[k].2.1,L[k].2.2)) ro (.slice (some ⟨g,0,none⟩) n c) vr vn vo vt vu vk vb:=by
 have e:aN (fun _=>True) w w:=aN.refl _ w;have f:=NS (v:= .string to_) (y:=({L[k].1 with aD2:=to_},L[k].2.1,L[k].2.2)) h.aDH a (j:=2) qe e trivial (fun _ _=>trivial) (fun _ _ _=>⟨fun _ _=>trivial,fun _ _=>trivial⟩)
  (by
    rintro r ⟨p,q,rfl,l,m,t,o,p5⟩;exact⟨p,q,rfl,l,m,i,o,p5⟩)
 exact h.rest e (fun _ _=>trivial) (fun _ _=>trivial) (fun _ _=>trivial) (fun _ _=>trivial) (tS h.all k ({L[k].1 with aD2:=to_},L[k].2.1,L[k].2.2)) (AI h.aD9 (x:=({L[k].1 with aD2:=to_},L[k].2.1,L[k].2.2)) (h.aD9 k a)) (xI (x:=({L[k].1 with aD2:=to_},L[k].2.1,L[k].2.2)) h.apart a h.lt (fun b d=> .inl d) (fun b d=> .inl d)) (AJ h.aEb (x:=({L[k].1 with aD2:=to_},L[k].2.1,L[k].2.2)) (h.aEb k a)) f
end
section
variable {K:nP} {base:Nat} {w w' w1:World} {s:Sto} {L:List Mix} {ro:Option Value} {vc vr vn vo vt vu vk vb:Value} {g n c k:Nat}
theorem bC.aD1(h:bC K base w s L ro vc vr vn vo vt vu vk vb)(c:k<L.length){v:Value}(g:L[k].2.1=some v){f:List pY}(d:aN (fun b=>some b≠v.ownBlock) w w')(q:aM lN 4 172 w' base (fun _=>False) v f)(hlen:f.length=L[k].1.aDM.length):
 bC K base w' {s with aDH:=s.aDH.set k {L[k].1 with aDM:=f}} (L.set k ({L[k].1 with aDM:=f},some v,L[k].2.2)) ro vc vr vn vo vt vu vk vb:=by
 have l:=(kK h.aDH c).1 v g;have own:∀b,v.ownBlock=some b->bO L[k].2.1=some b:=fun b a=>cN.2 ⟨v,g,a⟩
 have j:∀b,K b->some b≠v.ownBlock:=fun b a e=>(h.aEb k c).1 b (own b e.symm) a
 have t:=Pm h.aDH d (fun b a=>dW h.aDH l.1 qe a) c (y:=({L[k].1 with aDM:=f},some v,L[k].2.2)) j
  (fun i n z=>⟨fun b a e=>((h.beside c).1 b (own b e.symm) i n).1 z a,fun b a e=>((h.beside c).1 b (own b e.symm) i n).2 a⟩)
  (by
    rintro r ⟨E,F,rfl,A,B,C,o,p5⟩;rw[g] at o;obtain⟨p,q1,m,D⟩:=o;subst p;refine⟨E,F,rfl,A,B,C,⟨rfl,q,fun b a=>⟨(m b a).1,lL (m b a).2.1 d.size,(m b a).2.2⟩,by rw[hlen];exact D⟩,?_⟩;exact p5.aEk cD d j (fun b a e=>((h.beside c).1 b (own b e.symm) k c).2 a) (fun b a _=>⟨a.1,lL a.2.1 d.size,a.2.2⟩))
 exact {aEj:=h.aEj,aDP:=h.aDP,aDT:=h.aDT,all:=tS h.all k ({L[k].1 with aDM:=f},some v,L[k].2.2),aD9:=AI (x:=({L[k].1 with aDM:=f},some v,L[k].2.2)) h.aD9 (h.aD9 k c),apart:=xI (x:=({L[k].1 with aDM:=f},some v,L[k].2.2)) h.apart c h.lt (fun b a=> .inl (by rw[g];exact a)) (fun b a=> .inl a),aDH:=t,aDJ:=h.aDJ.stays cV d (fun b a=>dW h.aDJ l.1 qe a) (fun _ h _=>h.elim),aDO:=h.aDO.stays eD d (fun b a=>dW h.aDO l.1 qe a) (fun _ h _=>h.elim),aDU:=h.aDU.aEk dD d j (fun b e=>by obtain⟨u,h2,h3⟩:=h.rol e;exact dW h3 l.1 qe h2) (fun _ h _=>h),aDI:=h.aDI.aDQ (d.mono fun b _ a=>j b a),kept:=fun b a=>⟨lL (h.kept b a).1 d.size,(h.kept b a).2⟩,aEb:=AJ (x:=({L[k].1 with aDM:=f},some v,L[k].2.2)) h.aEb ⟨fun b a=>(h.aEb k c).1 b (by rw[g];exact a),(h.aEb k c).2⟩,size:=lT h.size d.size}
theorem bC.close(h:bC K base w s L ro vc (.slice (some ⟨g,0,none⟩) n c) vn vo vt vu vk vb)(m:k<s.aDJ.length){b:Bool}:
 bC K base (w.setCell ⟨g,k * 7+6,none⟩ (.bool b)) {s with aDJ:=s.aDJ.set k {s.aDJ[k] with open_:=b}} L ro vc (.slice (some ⟨g,0,none⟩) n c) vn vo vt vu vk vb:=by
 have a:=aM.setAt cV (j:=6) (x:= .bool b) (y:={s.aDJ[k] with open_:=b}) h.aDJ m qe (by rintro r ⟨rfl,p⟩;exact⟨rfl,p⟩);have f:w.grownBy (w.setCell ⟨g,k * 7+6,none⟩ (.bool b)) (some g):=by
  have h1:=aI (w:=w) (g:=g) (i:=k * 7+6) (.bool b);exact⟨h1.os,h1.tape,h1.output,h1.size,fun i l o=>h1.block i l (fun e=>o (by rw[e]))⟩
 exact h.aD3 f a (fun b d=> .inl d)
theorem bC.insert(h:bC K base w s L ro vc vr vn vo vt vu vk vb)(E:k<=L.length){xs cs:List Value}(J:w.ownsRow base 99 5 vc L.length xs/\aX (eC base K w (fun b=>(K b\/base<=b)/\b<w.heap.size/\some b≠vc.ownBlock)) xs L)
 {x:Mix}(I:eC base K w (fun b=>(K b\/base<=b)/\b<w.heap.size/\some b≠vc.ownBlock) cs x)(H:x.2.2.isSome=true){m:Nat}(hm:∀j (hj:j<L.length),(∀b,bO L[j].2.1=some b->b<m)/\(∀b,bO L[j].2.2=some b->b<m))(h1:∀b,bO x.2.1=some b->m<=b)(h2:∀b,bO x.2.2=some b->m<=b)(p:∀b,K b->m<=b->bO x.2.1≠some b/\bO x.2.2≠some b)
 {A:oD}{f:Nat}(G:w'.ownsRow base 99 5 (.slice A (L.length+1) f) (L.length+1) (xs.take (k * 5)++cs++xs.drop (k * 5)))(D:w.grownBy w' vc.ownBlock)(q:∀b,(Value.slice A (L.length+1) f).ownBlock=some b->vc.ownBlock=some b\/w.heap.size<=b)
 (t:∀b,bO x.2.1=some b\/bO x.2.2=some b->some b≠vc.ownBlock):
 bC K base w' {s with aDH:=s.aDH.take k++[x.1]++s.aDH.drop k} (L.take k++[x]++L.drop k) ro (.slice A (L.length+1) f) vr vn vo vt vu vk vb:=by
 have d:=cY D;have l:∀b,K b->some b≠vc.ownBlock:=fun b a=>(h.kept b a).2.1
 have y:(L.take k++[x]++L.drop k).length=L.length+1:=by simp only[aL,List.length_take,List.length_drop,List.length_cons,List.length_nil];omega
 have F:∀b,(K b\/base<=b)/\b<w.heap.size/\some b≠vc.ownBlock->b<w.heap.size->(K b\/base<=b)/\b<w'.heap.size/\some b≠(Value.slice A (L.length+1) f).ownBlock:=fun b a _=>⟨a.1,lL a.2.1 d.size,fun e=>by
  rcases q b e.symm with h3|h3
  .exact a.2.2 h3.symm
  .have:=a.2.1;omega⟩
 have C:∀r z,(z=x\/∃j,∃hj:j<L.length,z=L[j])->eC base K w (fun b=>(K b\/base<=b)/\b<w.heap.size/\some b≠vc.ownBlock) r z->eC base K w' (fun b=>(K b\/base<=b)/\b<w'.heap.size/\some b≠(Value.slice A (L.length+1) f).ownBlock) r z:=fun r z v g=>by
  refine AH g d l (fun b a=> ?_) (fun b a=> ?_) F
  .rcases v with rfl|⟨j,hj,rfl⟩
   .exact t b (.inl a)
   .obtain⟨u,_,_,_,h5⟩:=h.aEp hj a;exact h5
  .rcases v with rfl|⟨j,hj,rfl⟩
   .exact t b (.inr a)
   .obtain⟨u,_,_,_,h5⟩:=h.aEq hj a;exact h5
 have B:aX (eC base K w (fun b=>(K b\/base<=b)/\b<w.heap.size/\some b≠vc.ownBlock)) (xs.take (k * 5)++cs++xs.drop (k * 5)) (L.take k++[x]++L.drop k):=by
  have h3:=J.2.split (fun r x g=>(dS base K).len g) k E;exact(h3.1.append (aX.one I)).append h3.2
 have o:∀i (c:i<(L.take k++[x]++L.drop k).length),(L.take k++[x]++L.drop k)[i]=x\/∃j,∃hj:j<L.length,(L.take k++[x]++L.drop k)[i]=L[j]:=fun i c=>by
  have h3:=List.getElem_mem c
  rcases List.mem_append.1 h3 with h4|h4
  .rcases List.mem_append.1 h4 with h5|h5
   .obtain⟨j,hj,e⟩:=List.getElem_of_mem (List.mem_of_mem_take h5);exact .inr ⟨j,hj,e.symm⟩
   .exact .inl (by simpa using h5)
  .obtain⟨j,hj,e⟩:=List.getElem_of_mem (List.mem_of_mem_drop h4);exact .inr ⟨j,hj,e.symm⟩
 refine {aEj:=h.aEj,aDP:=h.aDP,aDT:=h.aDT,all:= ?_,aD9:=fun j hj=> ?_,apart:=Iu h.apart hm h1 h2,aDH:=⟨_,by rw[y];exact G,aX.aEn (fun i c r g=>C r _ (o i c) g) B⟩,aDJ:=h.aDJ.stays cV d (fun b a=>dW h.aDJ h.aDH qe a) (fun _ h _=>h.elim),aDO:=h.aDO.stays eD d (fun b a=>dW h.aDO h.aDH qe a) (fun _ h _=>h.elim),aDU:=h.aDU.aEk dD d l (fun b e=>by obtain⟨u,h2,h3⟩:=h.rol e;exact dW h3 h.aDH qe h2) (fun _ h _=>h),aDI:=h.aDI.aDQ (d.mono fun b _ a=>l b a),kept:=fun b a=>⟨lL (h.kept b a).1 d.size,fun e=> ?_,(h.kept b a).2.2⟩,aEb:=fun j hj=> ?_,size:=lT h.size d.size}
 .rw[List.map_append,List.map_append,List.map_take,List.map_drop,h.all];rfl
 .rcases o j hj with e|⟨i,c,e⟩
  .rw[e];exact H
  .rw[e];exact h.aD9 i c
 .rcases q b e.symm with h3|h3
  .exact l b a h3.symm
  .have:=(h.kept b a).1;omega
 .rcases o j hj with e|⟨i,c,e⟩
  .rw[e];exact⟨fun b a n=>(p b n (h1 b a)).1 a,fun b a n=>(p b n (h2 b a)).2 a⟩
  .rw[e];exact h.aEb i c
end
def AK(o:Option cH)(w:World)(e:Ending)(w':World):Prop:=(o=none/\e=.returned (.tuple #[.agg #[.string ⟨#[]⟩,.string ⟨#[]⟩,.string ⟨#[]⟩,.slice none 0 0,.slice none 0 0],.bool false])/\Below w.heap.size w w')\/(∃c a b,o=some c/\e=.returned (.tuple #[.agg #[.string c.id,.string c.aEa,.string c.aD2,a,b],.bool true])/\UM c w a b w')
theorem DO{ok:nP}(s:Sto)(vc vr vn vo vt vu vk vb:Value)(N:bY)(w:World)(h:fD w ok s vc vr vn vo vt vu vk vb):Calls prog 31 #[.agg (aV s vc vr vn vo vt vu vk vb),.string N] w (AK (eW s N) w):=by
 obtain⟨Y,Z,ra,rc,na,nc,oa,oc,ta,tc,ua,uc,ka,kc,W,X,rfl,_,rfl,_,rfl,_,rfl,_,rfl,_,rfl,_,rfl,_,rfl,_⟩:=h.sl;obtain⟨W0,g⟩:=xE ((w.alloc (.cells (fU s Y Z ra rc na nc oa oc ta tc ua uc ka kc W X) 52)).alloc (.cells #[.string ⟨#[]⟩,.string ⟨#[]⟩,.string ⟨#[]⟩,.slice none 0 0,.slice none 0 0] 99));have j:Hid (Below w.heap.size w W0):=aA (by rw[g];exact aC (aB _ _) (aB _ _));have A:Hid (W0.heap[w.heap.size]? =some (.cells (fU s Y Z ra rc na nc oa oc ta tc ua uc ka kc W X) 52 (0,0))):=aA (by rw[g];exact aE (aK _ _ _ rfl) (aB _ _));have R:Hid (W0.heap[w.heap.size+1]? =some (.cells #[.string ⟨#[]⟩,.string ⟨#[]⟩,.string ⟨#[]⟩,.slice none 0 0,.slice none 0 0] 99 (0,0))):=aA (by rw[g];exact aK _ _ _ qs);obtain⟨ag,n,O,m⟩:=dI g (JL s _ _ _ _ _ _ _ _ N W0 (h.on j.o)) (aH.on dY h.aDH j.o) (FG s N);obtain⟨⟨i,b⟩,hF⟩:∃F,aW s N=F:=⟨_,rfl⟩;rw[hF] at m n;unfold aP at n;unfold aV at *;have ao:=aA j.o;obtain⟨⟨a0,a1,a2,a3,a4,a5,a6,a7,a8,a9,ah,ai,a12⟩,_⟩:=bS A.o;have za:=aD A.o;clear h g hF;go_enter func31,ntmps31;go_wp2_with fail;rw[<-ag.o];refine n.o.mono ?_;rintro e w1 ⟨rfl,a⟩;have l:=qB j a;have ad:=aA (O.o.on dY a);clear a0 a1 a2 a3 a4 a5 a6 a7 a8 a9 ah ai a12 za;replace A:=qK A a;obtain⟨⟨y,z,E,G,H,I,J,K,L,M,B,C,D⟩,_⟩:=bS A.o;have zA:=aD A.o;replace R:=qK R a;obtain⟨⟨Q,S,T,U,V⟩,_⟩:=dN R.o;have x:=aD R.o;clear a n O
 rcases m.o with ⟨d,f⟩|⟨k,hk,d,f⟩
 .replace f:b=false:=f;subst f;have q:=aA d;clear m d;have f0:=aR R.o 0;have f1:=aR R.o 1;have f2:=aR R.o 2;have f3:=aR R.o 3;have f4:=aR R.o 4;go_wp2;refine bR (.tuple #[.agg #[.string ⟨#[]⟩,.string ⟨#[]⟩,.string ⟨#[]⟩,.slice none 0 0,.slice none 0 0],.bool false]) ?_;exact .inl ⟨q.o,rfl,As l.o (Nat.le_succ _)⟩
 .injection d with d e3;subst d e3;obtain⟨b,off,r,rfl,_,aq,⟨vf,vl,rfl,o⟩,aa⟩:=aH.at dY ad.o hk qe;obtain⟨fa,fc,rfl,_⟩:=o.2.2.2.1.slice;obtain⟨la,lc,rfl,_⟩:=o.2.2.2.2.slice;obtain⟨x0,x1,x2,x3,x4⟩:=KK aa;rw[Nat.add_zero] at x0;have ar:(i:Int)<(s.aDH.length:Int):=qo;have q:=aA f;clear m aa f;generalize s.aDH[i]=c at *;have p:=aA (GP c _ _ w1 o);unfold yA UM at p;clear o;go_wp2_with fail;refine p.o.mono ?_;rintro e w2 ⟨au,av,rfl,t,v,a⟩;obtain⟨aj,ak,rfl⟩:=t.slice;obtain⟨al,an,rfl⟩:=v.slice;have P:Hid (w.heap.size+1<w1.heap.size):=aA x;obtain⟨ae,af,ab⟩:=aY t v (aC l.o a)
  try clear y z E G H I J K L M B C D zA
  replace A:=qK A a;obtain⟨⟨y,z,E,G,H,I,J,K,L,M,B,C,D⟩,_⟩:=bS A.o;have zA:=aD A.o
  try clear Q S T U V x
  replace R:=qK R a;obtain⟨⟨Q,S,T,U,V⟩,_⟩:=dN R.o;have x:=aD R.o;have f0:=aR R.o 0;have f1:=aR R.o 1;have f2:=aR R.o 2;have f3:=aR R.o 3;have f4:=aR R.o 4;clear p t v a x0 x1 x2 x3 x4;go_wp2;refine bR (.tuple #[.agg #[.string c.id,.string c.aEa,.string c.aD2,.slice aj c.aDM.length ak,.slice al c.log.length an],.bool true]) ?_;refine .inr ⟨c,_,_,q.o,rfl,aM.less ?_ l.o.size,aM.less ?_ l.o.size,As ab.o (Nat.le_succ _)⟩
  .repeat (refine aM.aEG bP ?_ P.o AG)
   exact ae.o
  .repeat (refine aM.aEG cD ?_ P.o AG)
   exact af.o
theorem wI{L:List Tok}{p:PS}(T:Toks L)(hp:p.at_<L.length)(g:Nat)(w:World)(h:PW L w g p):
 Calls prog 262 #[.pointer (some ⟨g,0,none⟩)] w (eU L g w (oM (cE L p).1) (cE L p).2):=by
 have P:=h.lt;have H:=aA h;have h1:=dV T [str "subject",str "action",str "case",str "env"] hp;have h2:=gB T (str ".") h1.lt;have h3:=jI T h2.lt;have n:=aA (fun a c w h hw=>nJ T [str "subject",str "action",str "case",str "env"] a c 4 rfl qe hp g w h hw);have o:=aA (fun w h=>mN T (str ".") h1.lt g w h);have D:=aA (fun w h=>rL T h2.lt g w h);have q:=aA (fun w h=>eP T (str "!") h3.lt g w h);unfold eU cE;dsimp only;clear h h1 h2 h3;generalize aZ L [str "subject",str "action",str "case",str "env"] p=m at *;generalize eM L (str ".") m.2=I at *;generalize bT L I=s at *;generalize kS L (str "!") s.2=J at *;rw[Hw,Ox,Yv,aAM] at n;rw[aAL] at o;rw[Yu] at q;go_enter func262,ntmps262;go_wp2_with fail;obtain⟨b0,b1,Q,r⟩:=rN (w:=w) (aB ((w.alloc (.cells #[.int .i64 0,.string ⟨#[]⟩,.bool false] 260)).alloc (.cells #[.int .i64 0,.string ⟨#[]⟩,.bool false] 260)) (.cells #[.string ⟨#[115,117,98,106,101,99,116]⟩,.string ⟨#[97,99,116,105,111,110]⟩,.string ⟨#[99,97,115,101]⟩,.string ⟨#[101,110,118]⟩] 9));have z:Hid (cZ w.heap.size g w _):=aA (aJ r);refine(n.o _ _ _ (H.o.on r) (nK _ _ _ _ _ qs rfl)).mono ?_;rintro e w1 ⟨rfl,h1,i⟩;have A:=aA (z.o.aDY i);have b0:=aF b0 i qo;have b1:=aF b1 i qo;obtain⟨⟨t,v,x⟩,f0,f1,f2⟩:=cG b1;obtain⟨f,d,H1⟩:=aY b0 b1 h1;clear n z H r i h1 b0 b1;go_wp2_with fail;refine(o.o _ (H1.o.set qo)).mono ?_;rintro e w2 ⟨rfl,h2,j⟩;obtain⟨B,f,d,E⟩:=dI ((A.o.set (b:=w.heap.size+1) qo).aDY j) (aF (bE f.o qo) j qo) (aF (aG d.o 0 _) j qo:w2.heap[w.heap.size+1]? =some (.cells #[.int .i64 m.1,.string ⟨#[]⟩,.bool false] 260 (0,0))) (D.o _ h2)
 clear o A H1 h2 j D t v x f0 f1 f2;go_wp2_with fail;refine(E.o).mono ?_;rintro e S ⟨rfl,h3,k⟩;obtain⟨C,f,d⟩:=aY (B.o.aDY k) (aF f.o k qo) (aF d.o k qo);obtain⟨⟨t,v,x⟩,f0,f1,f2⟩:=cG d.o;have y:=aA h3;clear E B h3 k;go_wp2_with fail;refine(q.o _ (y.o.set qo)).mono ?_;rintro e K ⟨rfl,h4,l⟩;obtain⟨G,f,d⟩:=aY ((C.o.set (b:=w.heap.size+1) qo).aDY l) (aF (bE f.o qo) l qo) (aF (aG d.o 1 _) l qo:K.heap[w.heap.size+1]? =some (.cells #[.int .i64 m.1,.string s.1,.bool false] 260 (0,0)));obtain⟨⟨U,V,W⟩,g0,g1,g2⟩:=cG d.o;obtain⟨⟨z0,X,z2⟩,M,N,O⟩:=cG f.o;have R:=aD d.o;have F:=aA h4;clear q C y h4 l t v x f0 f1 f2;go_wp2;refine bR (.agg #[.int .i64 m.1,.string s.1,.bool J.1]) ?_;refine⟨rfl,?_,?_⟩
 .exact(((F.o.set qo).set qo).set qo).set qo
 .exact cZ.end ((((G.o.set qo).set qo).set qo).set qo)
theorem Ts{p:Prop}(h:p:=by
 refine⟨rfl,?_,?_⟩
 .exact(((((H1.o.step (by go_num)).set qo).set qo).set qo).alloc).alloc
 .exact cZ.end ((((((cZ.step (aJ HB1.o)).set qo).set qo).set qo).alloc).alloc)):p:=h
theorem Tt{p:Prop}(h:p:=by
 rw[iP hb];have db:(p.bad != 0)=true:=bne_iff_ne.2 hb;clear hb;go_enter func263,ntmps263;go_wp2_with fail;refine(HH.o _ (H.o.on (aB w _))).mono ?_;rintro e w1 ⟨rfl,hb1⟩;have HB0:=aA (aE (heap_alloc_new w (.cells fW 34)) hb1);have HB1:=aA (aC (aB w (.cells fW 34)) hb1);have h1:=H.o.on HB1.o;obtain⟨A,c,c0,c1,c2,c3,c4,hs⟩:=h1.cells;have f1:=h1.free 1;have hgl1:=h1.lt;obtain⟨⟨y0,y1,y2⟩,g0,g1,g2⟩:=cG HB0.o;have hz1:=aD HB0.o;have H1:=aA h1;clear hb1 hs h1 c0 c2 c4 HH H;go_wp2;refine bR (.agg #[.int .i64 0,.int .i64 0,.string ⟨#[]⟩]) ?_;refine⟨rfl,?_,?_⟩
 .exact((((H1.o.set qo).set qo).set qo).alloc).alloc
 .exact cZ.end (((((cZ.set (aJ HB1.o) qo).set qo).set qo).alloc).alloc)):p:=h
theorem nT{L:List Tok}{p:PS}{v:V3}{q:PS}(h:eT L p=(v,q)):dC L p=if q.bad≠0 then (bD,q) else (v,{q with at_:=q.at_+1}):=by rw[zO,h]
theorem Vw{L:List Tok}{p:PS}(hp:p.at_<L.length)(d:L.length<=5000)(g:Nat)(w:World)(h:PW L w g p)(a:(aU L p).aDG=2):
 Calls prog 263 #[.pointer (some ⟨g,0,none⟩)] w (eU L g w (dE (dC L p).1) (dC L p).2):=by
 have f:=h.lt;have H:=aA h;have HH:=aA (fun w h=>gK hp d g w h);have b:eT L p=((2,(aU L p).num,(aU L p).str),p):=by
  unfold eT;dsimp only;rw[iP a]
 rw[nT b];unfold eU;unfold iE at HH;generalize aU L p=t at *;clear h b;have d2:(t.aDG==2)=true:=bQ.2 a;clear a;have i:(0:Int)<=p.at_:=qo;have i2:(p.at_:Int)<=5000:=qo;by_cases hb:p.bad=0
 .rw[iN (fun h=>h hb)];go_enter func263,ntmps263;go_wp2_with fail;refine(HH.o _ (H.o.on (aB w _))).mono ?_;rintro e w1 ⟨rfl,hb1⟩;have HB0:=aA (aE (heap_alloc_new w (.cells fW 34)) hb1);have HB1:=aA (aC (aB w (.cells fW 34)) hb1);have h1:=H.o.on HB1.o;obtain⟨A,c,c0,c1,c2,c3,c4,hs⟩:=h1.cells;have f1:=h1.free 1;have hgl1:=h1.lt;obtain⟨⟨y0,y1,y2⟩,g0,g1,g2⟩:=cG HB0.o;have hz1:=aD HB0.o;have H1:=aA h1;clear hb1 hs h1 c0 c2 c4 HH H;rw[hb] at c3;clear hb;go_wp2;refine bR (.agg #[.int .i64 2,.int .i64 t.num,.string t.str]) ?_;exact Ts
 .exact Tt
theorem Vx{L:List Tok}{p:PS}(hp:p.at_<L.length)(d:L.length<=5000)(g:Nat)(w:World)(h:PW L w g p)(a:(aU L p).aDG=3):
 Calls prog 263 #[.pointer (some ⟨g,0,none⟩)] w (eU L g w (dE (dC L p).1) (dC L p).2):=by
 have f:=h.lt;have H:=aA h;have HH:=aA (fun w h=>gK hp d g w h);have b:eT L p=((4,(aU L p).num,(aU L p).str),p):=by
  unfold eT;dsimp only;rw[iN qo];rw[iP a]
 rw[nT b];unfold eU;unfold iE at HH;generalize aU L p=t at *;clear h b;have d2:(t.aDG==2)=false:=bN.2 qo;have d3:(t.aDG==3)=true:=bQ.2 a;clear a;have i:(0:Int)<=p.at_:=qo;have i2:(p.at_:Int)<=5000:=qo;by_cases hb:p.bad=0
 .rw[iN (fun h=>h hb)];go_enter func263,ntmps263;go_wp2_with fail;refine(HH.o _ (H.o.on (aB w _))).mono ?_;rintro e w1 ⟨rfl,hb1⟩;have HB0:=aA (aE (heap_alloc_new w (.cells fW 34)) hb1);have HB1:=aA (aC (aB w (.cells fW 34)) hb1);have h1:=H.o.on HB1.o;obtain⟨A,c,c0,c1,c2,c3,c4,hs⟩:=h1.cells;have f1:=h1.free 1;have hgl1:=h1.lt;obtain⟨⟨y0,y1,y2⟩,g0,g1,g2⟩:=cG HB0.o;have hz1:=aD HB0.o;have H1:=aA h1;clear hb1 hs h1 c0 c2 c4 HH H;rw[hb] at c3;clear hb;go_wp2;refine bR (.agg #[.int .i64 4,.int .i64 t.num,.string t.str]) ?_;exact Ts
 .exact Tt
theorem Vy{L:List Tok}{p:PS}(hp:p.at_<L.length)(d:L.length<=5000)(g:Nat)(w:World)(h:PW L w g p)(a:(aU L p).aDG=4):
 Calls prog 263 #[.pointer (some ⟨g,0,none⟩)] w (eU L g w (dE (dC L p).1) (dC L p).2):=by
 have f:=h.lt;have H:=aA h;have HH:=aA (fun w h=>gK hp d g w h);have b:eT L p=((5,(aU L p).num,(aU L p).str),p):=by
  unfold eT;dsimp only;rw[iN qo];rw[iN qo];rw[iP a]
 rw[nT b];unfold eU;unfold iE at HH;generalize aU L p=t at *;clear h b;have d2:(t.aDG==2)=false:=bN.2 qo;have d3:(t.aDG==3)=false:=bN.2 qo;have d4:(t.aDG==4)=true:=bQ.2 a;clear a;have i:(0:Int)<=p.at_:=qo;have i2:(p.at_:Int)<=5000:=qo;by_cases hb:p.bad=0
 .rw[iN (fun h=>h hb)];go_enter func263,ntmps263;go_wp2_with fail;refine(HH.o _ (H.o.on (aB w _))).mono ?_;rintro e w1 ⟨rfl,hb1⟩;have HB0:=aA (aE (heap_alloc_new w (.cells fW 34)) hb1);have HB1:=aA (aC (aB w (.cells fW 34)) hb1);have h1:=H.o.on HB1.o;obtain⟨A,c,c0,c1,c2,c3,c4,hs⟩:=h1.cells;have f1:=h1.free 1;have hgl1:=h1.lt;obtain⟨⟨y0,y1,y2⟩,g0,g1,g2⟩:=cG HB0.o;have hz1:=aD HB0.o;have H1:=aA h1;clear hb1 hs h1 c0 c2 c4 HH H;rw[hb] at c3;clear hb;go_wp2;refine bR (.agg #[.int .i64 5,.int .i64 t.num,.string t.str]) ?_;exact Ts
 .exact Tt
theorem Vz{L:List Tok}{p:PS}(hp:p.at_<L.length)(d:L.length<=5000)(g:Nat)(w:World)(h:PW L w g p)(a:(aU L p).aDG=5):
 Calls prog 263 #[.pointer (some ⟨g,0,none⟩)] w (eU L g w (dE (dC L p).1) (dC L p).2):=by
 have f:=h.lt;have H:=aA h;have HH:=aA (fun w h=>gK hp d g w h);have b:eT L p=((3,(aU L p).num,(aU L p).str),p):=by
  unfold eT;dsimp only;rw[iN qo];rw[iN qo];rw[iN qo];rw[iP a]
 rw[nT b];unfold eU;unfold iE at HH;generalize aU L p=t at *;clear h b;have d2:(t.aDG==2)=false:=bN.2 qo;have d3:(t.aDG==3)=false:=bN.2 qo;have d4:(t.aDG==4)=false:=bN.2 qo;have d5:(t.aDG==5)=true:=bQ.2 a;clear a;have i:(0:Int)<=p.at_:=qo;have i2:(p.at_:Int)<=5000:=qo;by_cases hb:p.bad=0
 .rw[iN (fun h=>h hb)];go_enter func263,ntmps263;go_wp2_with fail;refine(HH.o _ (H.o.on (aB w _))).mono ?_;rintro e w1 ⟨rfl,hb1⟩;have HB0:=aA (aE (heap_alloc_new w (.cells fW 34)) hb1);have HB1:=aA (aC (aB w (.cells fW 34)) hb1);have h1:=H.o.on HB1.o;obtain⟨A,c,c0,c1,c2,c3,c4,hs⟩:=h1.cells;have f1:=h1.free 1;have hgl1:=h1.lt;obtain⟨⟨y0,y1,y2⟩,g0,g1,g2⟩:=cG HB0.o;have hz1:=aD HB0.o;have H1:=aA h1;clear hb1 hs h1 c0 c2 c4 HH H;rw[hb] at c3;clear hb;go_wp2;refine bR (.agg #[.int .i64 3,.int .i64 t.num,.string t.str]) ?_;exact Ts
 .exact Tt
theorem QBA{p:Prop}(h:p:=by
 refine⟨rfl,?_,?_⟩
 .exact(((((((H2.o.set qo).set qo).set qo).step (by go_num)).set qo).set qo).set qo)
 .exact cZ.end (((((((HK2.o.set qo).set qo).set qo).step).set qo).set qo).set qo)):p:=h
theorem NT(w:World)(A B:Obj):((w.alloc A).alloc B).heap[w.heap.size]? =some A/\((w.alloc A).alloc B).heap[w.heap.size+1]? =some B/\w.heap.size+1<((w.alloc A).alloc B).heap.size/\Below w.heap.size w ((w.alloc A).alloc B):=rN (Below.refl _ _)
theorem Wa{L:List Tok}{p:PS}(hp:p.at_<L.length)(f:L.length<=5000)(g:Nat)(w:World)(h:PW L w g p)(m:(aU L p).aDG≠2)(n:(aU L p).aDG≠3)(o:(aU L p).aDG≠4)(r:(aU L p).aDG≠5)(i:cM L (str "true") p=true):
 Calls prog 263 #[.pointer (some ⟨g,0,none⟩)] w (eU L g w (dE (dC L p).1) (dC L p).2):=by
 have G:=h.lt;have H:=aA h;have k:=aA (fun w h=>gK hp f g w h);have d:=aA (fun w h=>oW (str "true") hp f g w h);have y:=aA (fun w h=>oW (str "false") hp f g w h);have C:=aA (fun w h=>mB hp f g w h);have E:=aA (show (dM L p).bad≠0 from lZ 5 _ qe p);have z:eT L p=((1,1,ByteArray.empty),p):=by
  unfold eT;dsimp only;rw[iN m,iN n,iN o,iN r,iP i]
 rw[nT z];have j:=aA (lP i).1;rw[i] at d;rw[iN (fun h=>h j.o)];clear i;unfold eU;unfold iE at k;rw[CP] at d;rw[yS] at y;have d2:((aU L p).aDG==2)=false:=bN.2 m;have d3:((aU L p).aDG==3)=false:=bN.2 n;have d4:((aU L p).aDG==4)=false:=bN.2 o;have d5:((aU L p).aDG==5)=false:=bN.2 r;generalize dM L p=q at *;generalize aU L p=t at *;clear h z m n o r;have N:(0:Int)<=p.at_:=qo;have i2:(p.at_:Int)<=5000:=qo;go_enter func263,ntmps263;go_wp2_with fail;refine(k.o _ (H.o.on (aB w _))).mono ?_;rintro e w1 ⟨rfl,l⟩;have v:=aA (aE (heap_alloc_new w (.cells fW 34)) l);have x:=aA (aC (aB w (.cells fW 34)) l);have K:=aD v.o;have H1:=aA (H.o.on x.o);have I:=H1.o.lt;clear l k H;have a:=aA (NT w1 (.cells (oJ t) 140) (.cells #[.int .i64 0,.int .i64 t.num,.string t.str] 34));go_wp2_with fail;refine(d.o _ (H1.o.on a.o.2.2.2)).mono ?_;rintro e w2 ⟨rfl,b⟩;obtain⟨B,s,HK2,H2⟩:=dI (aE (aE (aE v.o (aB w1 _)) (aB _ _)) b) (aE a.o.2.1 b) (show cZ w.heap.size g w w2 from (aJ (aC (aC x.o a.o.2.2.2) b))) ((H1.o.on a.o.2.2.2).on b);obtain⟨A,c,c0,c1,c2,c3,c4,D⟩:=H2.o.cells;have f1:=H2.o.free 1;have J:=H2.o.lt;obtain⟨⟨R,S,T⟩,g0,g1,g2⟩:=cG B.o;obtain⟨⟨O,P,Q⟩,f0,F,f2⟩:=cG s.o;have M:=aD s.o;clear b D c0 c2 c4 d y C H1 a;rw[j.o] at c3;clear j;go_wp2;refine bR (.agg #[.int .i64 1,.int .i64 1,.string ⟨#[]⟩]) ?_;exact QBA
theorem Wb{L:List Tok}{p:PS}(hp:p.at_<L.length)(k:L.length<=5000)(g:Nat)(w:World)(h:PW L w g p)(v:(aU L p).aDG≠2)(x:(aU L p).aDG≠3)(y:(aU L p).aDG≠4)(z:(aU L p).aDG≠5)(s:cM L (str "true") p=false)(l:cM L (str "false") p=true):
 Calls prog 263 #[.pointer (some ⟨g,0,none⟩)] w (eU L g w (dE (dC L p).1) (dC L p).2):=by
 have J:=h.lt;have H:=aA h;have o:=aA (fun w h=>gK hp k g w h);have j:=aA (fun w h=>oW (str "true") hp k g w h);have i:=aA (fun w h=>oW (str "false") hp k g w h);have E:=aA (fun w h=>mB hp k g w h);have G:=aA (show (dM L p).bad≠0 from lZ 5 _ qe p);have D:eT L p=((1,0,ByteArray.empty),p):=by
  unfold eT;dsimp only;rw[iN v,iN x,iN y,iN z,iN (by rw[s];decide),iP l]
 rw[nT D];have n:=aA (lP l).1;rw[l] at i;rw[s] at j;rw[iN (fun h=>h n.o)];clear l s;unfold eU;unfold iE at o;rw[CP] at j;rw[yS] at i;have d2:((aU L p).aDG==2)=false:=bN.2 v;have d3:((aU L p).aDG==3)=false:=bN.2 x;have d4:((aU L p).aDG==4)=false:=bN.2 y;have d5:((aU L p).aDG==5)=false:=bN.2 z;generalize dM L p=q at *;generalize aU L p=t at *;clear h D v x y z;have P:(0:Int)<=p.at_:=qo;have i2:(p.at_:Int)<=5000:=qo;go_enter func263,ntmps263;go_wp2_with fail;refine(o.o _ (H.o.on (aB w _))).mono ?_;rintro e w1 ⟨rfl,r⟩;have B:=aA (aE (heap_alloc_new w (.cells fW 34)) r);have C:=aA (aC (aB w (.cells fW 34)) r);have N:=aD B.o;have H1:=aA (H.o.on C.o);have K:=H1.o.lt;clear r o H;have a:=aA (NT w1 (.cells (oJ t) 140) (.cells #[.int .i64 0,.int .i64 t.num,.string t.str] 34));go_wp2_with fail;refine(j.o _ (H1.o.on a.o.2.2.2)).mono ?_;rintro e w2 ⟨rfl,b⟩;obtain⟨m,f,HK2,H2⟩:=dI (aE (aE (aE B.o (aB w1 _)) (aB _ _)) b) (aE a.o.2.1 b) (show cZ w.heap.size g w w2 from (aJ (aC (aC C.o a.o.2.2.2) b))) ((H1.o.on a.o.2.2.2).on b);go_wp2_with fail;refine(i.o _ H2.o).mono ?_;rintro e Q ⟨rfl,d⟩;clear b j;obtain⟨m,f,HK2,H2⟩:=dI (aE m.o d) (aE f.o d) (HK2.o.new d) (H2.o.on d);obtain⟨A,c,c0,c1,c2,c3,c4,F⟩:=H2.o.cells;have f1:=H2.o.free 1;have M:=H2.o.lt;obtain⟨⟨U,V,W⟩,g0,g1,g2⟩:=cG m.o;obtain⟨⟨R,S,T⟩,f0,I,f2⟩:=cG f.o;have O:=aD f.o;clear d F c0 c2 c4 i E H1 a;rw[n.o] at c3;clear n;go_wp2;refine bR (.agg #[.int .i64 1,.int .i64 0,.string ⟨#[]⟩]) ?_;exact QBA
theorem Wc{L:List Tok}{p:PS}(hp:p.at_<L.length)(o:L.length<=5000)(g:Nat)(w:World)(h:PW L w g p)(z:(aU L p).aDG≠2)(B:(aU L p).aDG≠3)(b:(aU L p).aDG≠4)(C:(aU L p).aDG≠5)(y:cM L (str "true") p=false)(x:cM L (str "false") p=false):
 Calls prog 263 #[.pointer (some ⟨g,0,none⟩)] w (eU L g w (dE (dC L p).1) (dC L p).2):=by
 have M:=h.lt;have H:=aA h;have r:=aA (fun w h=>gK hp o g w h);have n:=aA (fun w h=>oW (str "true") hp o g w h);have m:=aA (fun w h=>oW (str "false") hp o g w h);have F:=aA (fun w h=>mB hp o g w h);have s:=aA (show (dM L p).bad≠0 from lZ 5 _ qe p);have G:eT L p=((0,(aU L p).num,(aU L p).str),dM L p):=by
  unfold eT;dsimp only;rw[iN z,iN B,iN b,iN C,iN (by rw[y];decide),iN (by rw[x];decide)]
 rw[nT G];rw[x] at m;rw[y] at n;rw[iP s.o];clear x y;unfold eU;unfold iE at r;rw[CP] at n;rw[yS] at m;have d2:((aU L p).aDG==2)=false:=bN.2 z;have d3:((aU L p).aDG==3)=false:=bN.2 B;have d4:((aU L p).aDG==4)=false:=bN.2 b;have d5:((aU L p).aDG==5)=false:=bN.2 C;generalize dM L p=q at *;generalize aU L p=t at *;clear h G z B b C;have R:(0:Int)<=p.at_:=qo;have i2:(p.at_:Int)<=5000:=qo;go_enter func263,ntmps263;go_wp2_with fail;refine(r.o _ (H.o.on (aB w _))).mono ?_;rintro e w1 ⟨rfl,v⟩;have D:=aA (aE (heap_alloc_new w (.cells fW 34)) v);have E:=aA (aC (aB w (.cells fW 34)) v);have P:=aD D.o;have H1:=aA (H.o.on E.o);have N:=H1.o.lt;clear v r H;have j:=aA (NT w1 (.cells (oJ t) 140) (.cells #[.int .i64 0,.int .i64 t.num,.string t.str] 34));go_wp2_with fail;refine(n.o _ (H1.o.on j.o.2.2.2)).mono ?_;rintro e w2 ⟨rfl,k⟩;obtain⟨f,d,i,a⟩:=dI (aE (aE (aE D.o (aB w1 _)) (aB _ _)) k) (aE j.o.2.1 k) (show cZ w.heap.size g w w2 from (aJ (aC (aC E.o j.o.2.2.2) k))) ((H1.o.on j.o.2.2.2).on k);go_wp2_with fail;refine(m.o _ a.o).mono ?_;rintro e S ⟨rfl,l⟩;clear k n;obtain⟨f,d,i,a⟩:=dI (aE f.o l) (aE d.o l) (i.o.new l) (a.o.on l);go_wp2_with fail;refine(F.o _ a.o).mono ?_;rintro e T ⟨rfl,h4,b⟩;clear l m F;obtain⟨f,d,i,a⟩:=dI (aF f.o b qo) (aF d.o b qo) (i.o.aDY b) h4;obtain⟨A,c,c0,c1,c2,c3,c4,I⟩:=a.o.cells;have f1:=a.o.free 1;have O:=a.o.lt;obtain⟨⟨X,Y,Z⟩,g0,g1,g2⟩:=cG f.o;obtain⟨⟨U,V,W⟩,f0,K,f2⟩:=cG d.o;have Q:=aD d.o;have J:(q.bad != 0)=true:=bne_iff_ne.2 s.o;clear I c0 c1 c2 c4 H1 j s h4 b;go_wp2
 refine bR (.agg #[.int .i64 0,.int .i64 0,.string ⟨#[]⟩]) ?_;refine⟨rfl,?_,?_⟩
 .exact((a.o.set qo).set qo).set qo
 .exact cZ.end (((i.o.set qo).set qo).set qo)
theorem sB{L:List Tok}{p:PS}(T:Toks L)(hp:p.at_<L.length)(g:Nat)(w:World)(h:PW L w g p):
 Calls prog 263 #[.pointer (some ⟨g,0,none⟩)] w (eU L g w (dE (dC L p).1) (dC L p).2):=by
 have a:=T.len;by_cases b:(aU L p).aDG=2
 .exact Vw hp a g w h b
 by_cases c:(aU L p).aDG=3
 .exact Vx hp a g w h c
 by_cases d:(aU L p).aDG=4
 .exact Vy hp a g w h d
 by_cases e:(aU L p).aDG=5
 .exact Vz hp a g w h e
 cases f:cM L (str "true") p
 .cases i:cM L (str "false") p
  .exact Wc hp a g w h b c d e f i
  .exact Wb hp a g w h b c d e f i
 .exact Wa hp a g w h b c d e f
end Go.Proofs.YtheabjeppmdmiaaGreatDoor
