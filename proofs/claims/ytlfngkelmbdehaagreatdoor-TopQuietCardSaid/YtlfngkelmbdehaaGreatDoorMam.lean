/- Lemmas. -/
import Derived.Test.YtlfngkelmbdehaaGreatDoorMal
namespace Go.Proofs.YtlfngkelmbdehaaGreatDoor
open Go.RowKit
set_option linter.unusedVariables false
set_option linter.unusedSimpArgs false
set_option maxHeartbeats 16000000
open _root_.Go.Proofs.Tryz
set_option maxRecDepth 20000
theorem QDa{p:Prop}(h:p:=by
 obtain⟨u,hu,hu2⟩:=cM.1 hb;injection hu with hu;subst hu;exact(hat b hu2).imp (own b) id):p:=h
theorem QCn{p:Prop}(h:p:=by
 obtain⟨u,hu,hu2⟩:=cM.1 hb;injection hu with hu;subst hu
 rcases hat b hu2 with h2|h2
 .exact hK b hKb h2.symm
 .have:=(h.kept b hKb).1;omega):p:=h
section
variable {K:nP} {base:Nat} {w w' w1:World} {s:Sto} {L:List Mix} {ro:Option Value} {vr vn vo vt vu vk vb:Value} {g n c k:Nat}
theorem bC.beside{vc:Value}(h:bC K base w s L ro vc vr vn vo vt vu vk vb)(d:k<L.length):(∀b,bO L[k].2.1=some b->∀j (hj:j<L.length),(j≠k->bO L[j].2.1≠some b)/\bO L[j].2.2≠some b)/\(∀b,bO L[k].2.2=some b->∀j (hj:j<L.length),(j≠k->bO L[j].2.2≠some b)/\bO L[j].2.1≠some b):=by
 have ha:=CW.1 h.apart;have ne:∀i j (f:i<L.length) (hj:j<L.length) b,bO L[i].2.1=some b->bO L[j].2.2=some b->False:=fun i j f hj b h1 h2=>by
  obtain⟨u,_,g,g1,_⟩:=h.aDm f h1;obtain⟨m,_,l,g2,_⟩:=h.aDn hj h2;exact dQ g1 g2 qe g l.symm
 exact⟨fun b c j hj=>⟨fun e a=>(ha k j d hj (Ne.symm e)).1 b c a,fun a=>ne k j d hj b c a⟩,fun b c j hj=>⟨fun e a=>(ha k j d hj (Ne.symm e)).2 b c a,fun a=>ne j k hj d b a c⟩⟩
theorem tI{L:List Mix}{l:List cF}(h:L.map Prod.fst=l)(k:Nat)(x:Mix):(L.set k x).map Prod.fst=l.set k x.1:=by rw[List.map_set,h]
theorem bC.rest(h:bC K base w s L ro (.slice (some ⟨g,0,none⟩) n c) vr vn vo vt vu vk vb){q:nP}(f:aN q w w1)(k:∀b,K b->q b)(z:∀b,vr.ownBlock=some b->q b)(v:∀b,vn.ownBlock=some b->q b)(y:∀b,bO ro=some b->q b)
 {a:List Mix}{l':List cF}(m:a.map Prod.fst=l')(t:∀j (hj:j<a.length),a[j].2.2.isSome=true)(o:pI a)(r:∀j (hj:j<a.length),(∀b,bO a[j].2.1=some b->¬K b)/\(∀b,bO a[j].2.2=some b->¬K b)){i:Nat}{x:Value}
 (p:aM (dY base K) 5 113 (w1.setCell ⟨g,i,none⟩ x) base (fun b=>K b\/base<=b) (.slice (some ⟨g,0,none⟩) n c) a):bC K base (w1.setCell ⟨g,i,none⟩ x) {s with aCD:=l'} a ro (.slice (some ⟨g,0,none⟩) n c) vr vn vo vt vu vk vb:={
 aCN:=h.aCN
 aCQ:=h.aCQ
 all:=m
 aC5:=t
 apart:=o
 aCD:=p
 aCG:=aM.off cS (h.aCG.stays cS f z (fun _ h _=>h.elim)) (fun h=>h) (fun e=>dQ h.aCG h.aCD qe e rfl)
 aCL:=aM.off dZ (h.aCL.stays dZ f v (fun _ h _=>h.elim)) (fun h=>h) (fun e=>dQ h.aCL h.aCD qe e rfl)
 aCR:=(h.aCR.aDh cZ f k y (fun _ h _=>h)).aDh (q:=fun b=>b≠g) cZ (aI x) (fun b d e=>(h.kept b d).2.1 (by rw[e];rfl)) (fun b e l=>by
  obtain⟨u,h2,h3⟩:=h.rol e;exact dQ h3 h.aCD qe h2 (by rw[l];rfl)) (fun _ h _=>h)
 aCE:=(h.aCE.aCM (f.mono fun b _ d=>k b d)).aCM (fF (fun d=>(h.kept g d).2.1 rfl))
 kept:=fun b d=>⟨by rw[jK];exact lL (h.kept b d).1 f.size,(h.kept b d).2⟩
 aC8:=r
 aDg:=h.aDg
 size:=by rw[jK];exact lT h.size f.size}
theorem zN{L:List Mix}(h:∀j (hj:j<L.length),L[j].2.2.isSome=true){k:Nat}{x:Mix}(a:x.2.2.isSome=true):∀j (hj:j<(L.set k x).length),(L.set k x)[j].2.2.isSome=true:=by
 intro j hj;rw[List.length_set] at hj;rw[List.getElem_set];split
 .exact a
 .exact h j hj
theorem zO{K:nP}{L:List Mix}(h:∀j (hj:j<L.length),(∀b,bO L[j].2.1=some b->¬K b)/\(∀b,bO L[j].2.2=some b->¬K b)){k:Nat}{x:Mix}(a:(∀b,bO x.2.1=some b->¬K b)/\(∀b,bO x.2.2=some b->¬K b)):∀j (hj:j<(L.set k x).length),(∀b,bO (L.set k x)[j].2.1=some b->¬K b)/\(∀b,bO (L.set k x)[j].2.2=some b->¬K b):=by
 intro j hj;rw[List.length_set] at hj;rw[List.getElem_set];split
 .exact a
 .exact h j hj
theorem bC.log(h:bC K base w s L ro (.slice (some ⟨g,0,none⟩) n c) vr vn vo vt vu vk vb)(a:k<L.length){v v':Value}(q:L[k].2.2=some v){d:List tS}(z:w.grownBy w1 v.ownBlock)(m:aM mP 3 193 w1 base (fun _=>False) v' d)(hat:∀b,v'.ownBlock=some b->v.ownBlock=some b\/w.heap.size<=b)(hlen:d.length<=1000000):
 bC K base (w1.setCell ⟨g,k * 5+4,none⟩ v') {s with aCD:=s.aCD.set k {L[k].1 with log:=d}} (L.set k ({L[k].1 with log:=d},L[k].2.1,some v')) ro (.slice (some ⟨g,0,none⟩) n c) vr vn vo vt vu vk vb:=by
 have l:=cU z;have f:=(kC h.aCD a).2 v q;have H:g<w.heap.size:=(h.aCD.lt g rfl).2;have own:∀b,v.ownBlock=some b->bO L[k].2.2=some b:=fun b hb=>cM.2 ⟨v,q,hb⟩
 have hK:∀b,K b->some b≠v.ownBlock:=fun b hb e=>(h.aC8 k a).2 b (own b e.symm) hb
 have o:some g≠v.ownBlock:=fun e=>f.2.1 g e.symm rfl
 have B:∀b,v'.ownBlock=some b->b≠g:=fun b hb e=>by
  rcases hat b hb with h2|h2
  .exact o (by rw[h2,e])
  .omega
 have t:=MF (v:=v') (y:=({L[k].1 with log:=d},L[k].2.1,some v')) h.aCD a (j:=4) qe l o hK
  (fun i p A=>⟨fun b hb e=>((h.beside a).2 b (own b e.symm) i p).2 hb,fun b hb e=>((h.beside a).2 b (own b e.symm) i p).1 A hb⟩)
  (by
    rintro r ⟨G,I,rfl,C,D,E,F,p5⟩;refine⟨G,v',rfl,C,D,E,?_,rfl,m,fun b hb=>⟨.inr (m.lt b hb).1,(m.lt b hb).2,B b hb⟩,hlen⟩;exact F.aDh bP l hK (fun b hb e=>((h.beside a).2 b (own b e.symm) k a).2 hb) (fun b hb _=>⟨hb.1,lL hb.2.1 l.size,hb.2.2⟩))
 refine h.rest l hK (fun b hb=>dQ h.aCG f.1 qe hb) (fun b hb=>dQ h.aCL f.1 qe hb) (fun b e=> ?_) (tI h.all k ({L[k].1 with log:=d},L[k].2.1,some v')) (zN (x:=({L[k].1 with log:=d},L[k].2.1,some v')) h.aC5 rfl) (wV (x:=({L[k].1 with log:=d},L[k].2.1,some v')) h.apart a h.lt (fun b hb=> .inl hb) (fun b hb=> ?_)) (zO (x:=({L[k].1 with log:=d},L[k].2.1,some v')) h.aC8 ⟨(h.aC8 k a).1,fun b hb hKb=> ?_⟩) t
 .obtain⟨u,h2,h3⟩:=h.rol e;exact dQ h3 f.1 qe h2
 .exact QDa
 .exact QCn
theorem bC.aCJ(h:bC K base w s L ro (.slice (some ⟨g,0,none⟩) n c) vr vn vo vt vu vk vb)(a:k<L.length){v v':Value}(q:L[k].2.1=some v){d:List pO}(z:w.grownBy w1 v.ownBlock)(m:aM lC 4 161 w1 base (fun _=>False) v' d)(hat:∀b,v'.ownBlock=some b->v.ownBlock=some b\/w.heap.size<=b)(hlen:d.length<=1000000):
 bC K base (w1.setCell ⟨g,k * 5+3,none⟩ v') {s with aCD:=s.aCD.set k {L[k].1 with aCJ:=d}} (L.set k ({L[k].1 with aCJ:=d},some v',L[k].2.2)) ro (.slice (some ⟨g,0,none⟩) n c) vr vn vo vt vu vk vb:=by
 have l:=cU z;have f:=(kC h.aCD a).1 v q;have G:g<w.heap.size:=(h.aCD.lt g rfl).2;have own:∀b,v.ownBlock=some b->bO L[k].2.1=some b:=fun b hb=>cM.2 ⟨v,q,hb⟩
 have hK:∀b,K b->some b≠v.ownBlock:=fun b hb e=>(h.aC8 k a).1 b (own b e.symm) hb
 have o:some g≠v.ownBlock:=fun e=>f.2.1 g e.symm rfl
 have B:∀b,v'.ownBlock=some b->b≠g:=fun b hb e=>by
  rcases hat b hb with h2|h2
  .exact o (by rw[h2,e])
  .omega
 have t:=MF (v:=v') (y:=({L[k].1 with aCJ:=d},some v',L[k].2.2)) h.aCD a (j:=3) qe l o hK
  (fun i p A=>⟨fun b hb e=>((h.beside a).1 b (own b e.symm) i p).1 A hb,fun b hb e=>((h.beside a).1 b (own b e.symm) i p).2 hb⟩)
  (by
    rintro r ⟨I,F,rfl,C,D,E,H,p5⟩;refine⟨v',F,rfl,C,D,E,⟨rfl,m,fun b hb=>⟨.inr (m.lt b hb).1,(m.lt b hb).2,B b hb⟩,hlen⟩,?_⟩;exact p5.aDh cC l hK (fun b hb e=>((h.beside a).1 b (own b e.symm) k a).2 hb) (fun b hb _=>⟨hb.1,lL hb.2.1 l.size,hb.2.2⟩))
 refine h.rest l hK (fun b hb=>dQ h.aCG f.1 qe hb) (fun b hb=>dQ h.aCL f.1 qe hb) (fun b e=> ?_) (tI h.all k ({L[k].1 with aCJ:=d},some v',L[k].2.2)) (zN (x:=({L[k].1 with aCJ:=d},some v',L[k].2.2)) h.aC5 (h.aC5 k a)) (wV (x:=({L[k].1 with aCJ:=d},some v',L[k].2.2)) h.apart a h.lt (fun b hb=> ?_) (fun b hb=> .inl hb)) (zO (x:=({L[k].1 with aCJ:=d},some v',L[k].2.2)) h.aC8 ⟨fun b hb hKb=> ?_,(h.aC8 k a).2⟩) t
 .obtain⟨u,h2,h3⟩:=h.rol e;exact dQ h3 f.1 qe h2
 .exact QDa
 .exact QCn
theorem bC.aCZ(h:bC K base w s L ro (.slice (some ⟨g,0,none⟩) n c) vr vn vo vt vu vk vb)(a:k<L.length){to_:bY}(i:to_.size<=cP):
 bC K base (w.setCell ⟨g,k * 5+2,none⟩ (.string to_)) {s with aCD:=s.aCD.set k {L[k].1 with aCZ:=to_}} (L.set k ({L[k].1 with aCZ:=to_},L[k].2.1,L[k].2.2)) ro (.slice (some ⟨g,0,none⟩) n c) vr vn vo vt vu vk vb:=by
 have e:aN (fun _=>True) w w:=aN.refl _ w;have f:=MF (v:= .string to_) (y:=({L[k].1 with aCZ:=to_},L[k].2.1,L[k].2.2)) h.aCD a (j:=2) qe e trivial (fun _ _=>trivial) (fun _ _ _=>⟨fun _ _=>trivial,fun _ _=>trivial⟩)
  (by
    rintro r ⟨p,q,rfl,l,m,t,o,p5⟩;exact⟨p,q,rfl,l,m,i,o,p5⟩)
 exact h.rest e (fun _ _=>trivial) (fun _ _=>trivial) (fun _ _=>trivial) (fun _ _=>trivial) (tI h.all k ({L[k].1 with aCZ:=to_},L[k].2.1,L[k].2.2)) (zN h.aC5 (x:=({L[k].1 with aCZ:=to_},L[k].2.1,L[k].2.2)) (h.aC5 k a)) (wV (x:=({L[k].1 with aCZ:=to_},L[k].2.1,L[k].2.2)) h.apart a h.lt (fun b d=> .inl d) (fun b d=> .inl d)) (zO h.aC8 (x:=({L[k].1 with aCZ:=to_},L[k].2.1,L[k].2.2)) (h.aC8 k a)) f
end
section
variable {K:nP} {base:Nat} {w w' w1:World} {s:Sto} {L:List Mix} {ro:Option Value} {vc vr vn vo vt vu vk vb:Value} {g n c k:Nat}
theorem bC.aCY(h:bC K base w s L ro vc vr vn vo vt vu vk vb)(c:k<L.length){v:Value}(g:L[k].2.1=some v){f:List pO}(d:aN (fun b=>some b≠v.ownBlock) w w')(q:aM lC 4 161 w' base (fun _=>False) v f)(hlen:f.length=L[k].1.aCJ.length):
 bC K base w' {s with aCD:=s.aCD.set k {L[k].1 with aCJ:=f}} (L.set k ({L[k].1 with aCJ:=f},some v,L[k].2.2)) ro vc vr vn vo vt vu vk vb:=by
 have l:=(kC h.aCD c).1 v g;have own:∀b,v.ownBlock=some b->bO L[k].2.1=some b:=fun b a=>cM.2 ⟨v,g,a⟩
 have j:∀b,K b->some b≠v.ownBlock:=fun b a e=>(h.aC8 k c).1 b (own b e.symm) a
 have t:=Nj h.aCD d (fun b a=>dQ h.aCD l.1 qe a) c (y:=({L[k].1 with aCJ:=f},some v,L[k].2.2)) j
  (fun i n z=>⟨fun b a e=>((h.beside c).1 b (own b e.symm) i n).1 z a,fun b a e=>((h.beside c).1 b (own b e.symm) i n).2 a⟩)
  (by
    rintro r ⟨E,F,rfl,A,B,C,o,p5⟩;rw[g] at o;obtain⟨p,q1,m,D⟩:=o;subst p;refine⟨E,F,rfl,A,B,C,⟨rfl,q,fun b a=>⟨(m b a).1,lL (m b a).2.1 d.size,(m b a).2.2⟩,by rw[hlen];exact D⟩,?_⟩;exact p5.aDh cC d j (fun b a e=>((h.beside c).1 b (own b e.symm) k c).2 a) (fun b a _=>⟨a.1,lL a.2.1 d.size,a.2.2⟩))
 exact {aDg:=h.aDg,aCN:=h.aCN,aCQ:=h.aCQ,all:=tI h.all k ({L[k].1 with aCJ:=f},some v,L[k].2.2),aC5:=zN (x:=({L[k].1 with aCJ:=f},some v,L[k].2.2)) h.aC5 (h.aC5 k c),apart:=wV (x:=({L[k].1 with aCJ:=f},some v,L[k].2.2)) h.apart c h.lt (fun b a=> .inl (by rw[g];exact a)) (fun b a=> .inl a),aCD:=t,aCG:=h.aCG.stays cS d (fun b a=>dQ h.aCG l.1 qe a) (fun _ h _=>h.elim),aCL:=h.aCL.stays dZ d (fun b a=>dQ h.aCL l.1 qe a) (fun _ h _=>h.elim),aCR:=h.aCR.aDh cZ d j (fun b e=>by obtain⟨u,h2,h3⟩:=h.rol e;exact dQ h3 l.1 qe h2) (fun _ h _=>h),aCE:=h.aCE.aCM (d.mono fun b _ a=>j b a),kept:=fun b a=>⟨lL (h.kept b a).1 d.size,(h.kept b a).2⟩,aC8:=zO (x:=({L[k].1 with aCJ:=f},some v,L[k].2.2)) h.aC8 ⟨fun b a=>(h.aC8 k c).1 b (by rw[g];exact a),(h.aC8 k c).2⟩,size:=lT h.size d.size}
theorem bC.close(h:bC K base w s L ro vc (.slice (some ⟨g,0,none⟩) n c) vn vo vt vu vk vb)(m:k<s.aCG.length){b:Bool}:
 bC K base (w.setCell ⟨g,k * 7+6,none⟩ (.bool b)) {s with aCG:=s.aCG.set k {s.aCG[k] with open_:=b}} L ro vc (.slice (some ⟨g,0,none⟩) n c) vn vo vt vu vk vb:=by
 have a:=aM.setAt cS (j:=6) (x:= .bool b) (y:={s.aCG[k] with open_:=b}) h.aCG m qe (by rintro r ⟨rfl,p⟩;exact⟨rfl,p⟩);have f:w.grownBy (w.setCell ⟨g,k * 7+6,none⟩ (.bool b)) (some g):=by
  have h1:=aI (w:=w) (g:=g) (i:=k * 7+6) (.bool b);exact⟨h1.os,h1.tape,h1.output,h1.size,fun i l o=>h1.block i l (fun e=>o (by rw[e]))⟩
 exact h.aC0 f a (fun b d=> .inl d)
theorem bC.insert(h:bC K base w s L ro vc vr vn vo vt vu vk vb)(E:k<=L.length){xs cs:List Value}(J:w.ownsRow base 113 5 vc L.length xs/\aX (dY base K w (fun b=>(K b\/base<=b)/\b<w.heap.size/\some b≠vc.ownBlock)) xs L)
 {x:Mix}(I:dY base K w (fun b=>(K b\/base<=b)/\b<w.heap.size/\some b≠vc.ownBlock) cs x)(H:x.2.2.isSome=true){m:Nat}(hm:∀j (hj:j<L.length),(∀b,bO L[j].2.1=some b->b<m)/\(∀b,bO L[j].2.2=some b->b<m))(h1:∀b,bO x.2.1=some b->m<=b)(h2:∀b,bO x.2.2=some b->m<=b)(p:∀b,K b->m<=b->bO x.2.1≠some b/\bO x.2.2≠some b)
 {A:oD}{f:Nat}(G:w'.ownsRow base 113 5 (.slice A (L.length+1) f) (L.length+1) (xs.take (k * 5)++cs++xs.drop (k * 5)))(D:w.grownBy w' vc.ownBlock)(q:∀b,(Value.slice A (L.length+1) f).ownBlock=some b->vc.ownBlock=some b\/w.heap.size<=b)
 (t:∀b,bO x.2.1=some b\/bO x.2.2=some b->some b≠vc.ownBlock):
 bC K base w' {s with aCD:=s.aCD.take k++[x.1]++s.aCD.drop k} (L.take k++[x]++L.drop k) ro (.slice A (L.length+1) f) vr vn vo vt vu vk vb:=by
 have d:=cU D;have l:∀b,K b->some b≠vc.ownBlock:=fun b a=>(h.kept b a).2.1
 have y:(L.take k++[x]++L.drop k).length=L.length+1:=by simp only[aL,List.length_take,List.length_drop,List.length_cons,List.length_nil];omega
 have F:∀b,(K b\/base<=b)/\b<w.heap.size/\some b≠vc.ownBlock->b<w.heap.size->(K b\/base<=b)/\b<w'.heap.size/\some b≠(Value.slice A (L.length+1) f).ownBlock:=fun b a _=>⟨a.1,lL a.2.1 d.size,fun e=>by
  rcases q b e.symm with h3|h3
  .exact a.2.2 h3.symm
  .have:=a.2.1;omega⟩
 have C:∀r z,(z=x\/∃j,∃hj:j<L.length,z=L[j])->dY base K w (fun b=>(K b\/base<=b)/\b<w.heap.size/\some b≠vc.ownBlock) r z->dY base K w' (fun b=>(K b\/base<=b)/\b<w'.heap.size/\some b≠(Value.slice A (L.length+1) f).ownBlock) r z:=fun r z v g=>by
  refine zM g d l (fun b a=> ?_) (fun b a=> ?_) F
  .rcases v with rfl|⟨j,hj,rfl⟩
   .exact t b (.inl a)
   .obtain⟨u,_,_,_,h5⟩:=h.aDm hj a;exact h5
  .rcases v with rfl|⟨j,hj,rfl⟩
   .exact t b (.inr a)
   .obtain⟨u,_,_,_,h5⟩:=h.aDn hj a;exact h5
 have B:aX (dY base K w (fun b=>(K b\/base<=b)/\b<w.heap.size/\some b≠vc.ownBlock)) (xs.take (k * 5)++cs++xs.drop (k * 5)) (L.take k++[x]++L.drop k):=by
  have h3:=J.2.split (fun r x g=>(dN base K).len g) k E;exact(h3.1.append (aX.one I)).append h3.2
 have o:∀i (c:i<(L.take k++[x]++L.drop k).length),(L.take k++[x]++L.drop k)[i]=x\/∃j,∃hj:j<L.length,(L.take k++[x]++L.drop k)[i]=L[j]:=fun i c=>by
  have h3:=List.getElem_mem c
  rcases List.mem_append.1 h3 with h4|h4
  .rcases List.mem_append.1 h4 with h5|h5
   .obtain⟨j,hj,e⟩:=List.getElem_of_mem (List.mem_of_mem_take h5);exact .inr ⟨j,hj,e.symm⟩
   .exact .inl (by simpa using h5)
  .obtain⟨j,hj,e⟩:=List.getElem_of_mem (List.mem_of_mem_drop h4);exact .inr ⟨j,hj,e.symm⟩
 refine {aDg:=h.aDg,aCN:=h.aCN,aCQ:=h.aCQ,all:= ?_,aC5:=fun j hj=> ?_,apart:=Hc h.apart hm h1 h2,aCD:=⟨_,by rw[y];exact G,aX.aDk (fun i c r g=>C r _ (o i c) g) B⟩,aCG:=h.aCG.stays cS d (fun b a=>dQ h.aCG h.aCD qe a) (fun _ h _=>h.elim),aCL:=h.aCL.stays dZ d (fun b a=>dQ h.aCL h.aCD qe a) (fun _ h _=>h.elim),aCR:=h.aCR.aDh cZ d l (fun b e=>by obtain⟨u,h2,h3⟩:=h.rol e;exact dQ h3 h.aCD qe h2) (fun _ h _=>h),aCE:=h.aCE.aCM (d.mono fun b _ a=>l b a),kept:=fun b a=>⟨lL (h.kept b a).1 d.size,fun e=> ?_,(h.kept b a).2.2⟩,aC8:=fun j hj=> ?_,size:=lT h.size d.size}
 .rw[List.map_append,List.map_append,List.map_take,List.map_drop,h.all];rfl
 .rcases o j hj with e|⟨i,c,e⟩
  .rw[e];exact H
  .rw[e];exact h.aC5 i c
 .rcases q b e.symm with h3|h3
  .exact l b a h3.symm
  .have:=(h.kept b a).1;omega
 .rcases o j hj with e|⟨i,c,e⟩
  .rw[e];exact⟨fun b a n=>(p b n (h1 b a)).1 a,fun b a n=>(p b n (h2 b a)).2 a⟩
  .rw[e];exact h.aC8 i c
end
def zP(o:Option cF)(w:World)(e:Ending)(w':World):Prop:=(o=none/\e=.returned (.tuple #[.agg #[.string ⟨#[]⟩,.string ⟨#[]⟩,.string ⟨#[]⟩,.slice none 0 0,.slice none 0 0],.bool false])/\Below w.heap.size w w')\/(∃c a b,o=some c/\e=.returned (.tuple #[.agg #[.string c.id,.string c.aC6,.string c.aCZ,a,b],.bool true])/\TH c w a b w')
theorem CX{ok:nP}(s:Sto)(vc vr vn vo vt vu vk vb:Value)(N:bY)(w:World)(h:eY w ok s vc vr vn vo vt vu vk vb):Calls prog 50 #[.agg (aV s vc vr vn vo vt vu vk vb),.string N] w (zP (eR s N) w):=by
 obtain⟨Y,Z,ra,rc,na,nc,oa,oc,ta,tc,ua,uc,ka,kc,W,X,rfl,_,rfl,_,rfl,_,rfl,_,rfl,_,rfl,_,rfl,_,rfl,_⟩:=h.sl;obtain⟨W0,g⟩:=xE ((w.alloc (.cells (fR s Y Z ra rc na nc oa oc ta tc ua uc ka kc W X) 40)).alloc (.cells #[.string ⟨#[]⟩,.string ⟨#[]⟩,.string ⟨#[]⟩,.slice none 0 0,.slice none 0 0] 113));have j:Hid (Below w.heap.size w W0):=aA (by rw[g];exact aC (aB _ _) (aB _ _));have A:Hid (W0.heap[w.heap.size]? =some (.cells (fR s Y Z ra rc na nc oa oc ta tc ua uc ka kc W X) 40 (0,0))):=aA (by rw[g];exact aE (aK _ _ _ rfl) (aB _ _));have R:Hid (W0.heap[w.heap.size+1]? =some (.cells #[.string ⟨#[]⟩,.string ⟨#[]⟩,.string ⟨#[]⟩,.slice none 0 0,.slice none 0 0] 113 (0,0))):=aA (by rw[g];exact aK _ _ _ qs);obtain⟨ag,n,O,m⟩:=dC g (IN s _ _ _ _ _ _ _ _ N W0 (h.on j.o)) (aH.on dS h.aCD j.o) (EN s N);obtain⟨⟨i,b⟩,hF⟩:∃F,aW s N=F:=⟨_,rfl⟩;rw[hF] at m n;unfold aP at n;unfold aV at *;have ao:=aA j.o;obtain⟨⟨a0,a1,a2,a3,a4,a5,a6,a7,a8,a9,ah,ai,a12⟩,_⟩:=bT A.o;have za:=aD A.o;clear h g hF;go_enter func50,ntmps50;go_wp2_with fail;rw[<-ag.o];refine n.o.mono ?_;rintro e w1 ⟨rfl,a⟩;have l:=qB j a;have ad:=aA (O.o.on dS a);clear a0 a1 a2 a3 a4 a5 a6 a7 a8 a9 ah ai a12 za;replace A:=qK A a;obtain⟨⟨y,z,E,G,H,I,J,K,L,M,B,C,D⟩,_⟩:=bT A.o;have zA:=aD A.o;replace R:=qK R a;obtain⟨⟨Q,S,T,U,V⟩,_⟩:=dL R.o;have x:=aD R.o;clear a n O
 rcases m.o with ⟨d,f⟩|⟨k,hk,d,f⟩
 .replace f:b=false:=f;subst f;have q:=aA d;clear m d;have f0:=aR R.o 0;have f1:=aR R.o 1;have f2:=aR R.o 2;have f3:=aR R.o 3;have f4:=aR R.o 4;go_wp2;refine bR (.tuple #[.agg #[.string ⟨#[]⟩,.string ⟨#[]⟩,.string ⟨#[]⟩,.slice none 0 0,.slice none 0 0],.bool false]) ?_;exact .inl ⟨q.o,rfl,ZK l.o (Nat.le_succ _)⟩
 .injection d with d e3;subst d e3;obtain⟨b,off,r,rfl,_,aq,⟨vf,vl,rfl,o⟩,aa⟩:=aH.at dS ad.o hk qe;obtain⟨fa,fc,rfl,_⟩:=o.2.2.2.1.slice;obtain⟨la,lc,rfl,_⟩:=o.2.2.2.2.slice;obtain⟨x0,x1,x2,x3,x4⟩:=JM aa;rw[Nat.add_zero] at x0;have ar:(i:Int)<(s.aCD.length:Int):=qo;have q:=aA f;clear m aa f;generalize s.aCD[i]=c at *;have p:=aA (FP c _ _ w1 o);unfold xO TH at p;clear o;go_wp2_with fail;refine p.o.mono ?_;rintro e w2 ⟨au,av,rfl,t,v,a⟩;obtain⟨aj,ak,rfl⟩:=t.slice;obtain⟨al,an,rfl⟩:=v.slice;have P:Hid (w.heap.size+1<w1.heap.size):=aA x;obtain⟨ae,af,ab⟩:=aY t v (aC l.o a)
  try clear y z E G H I J K L M B C D zA
  replace A:=qK A a;obtain⟨⟨y,z,E,G,H,I,J,K,L,M,B,C,D⟩,_⟩:=bT A.o;have zA:=aD A.o
  try clear Q S T U V x
  replace R:=qK R a;obtain⟨⟨Q,S,T,U,V⟩,_⟩:=dL R.o;have x:=aD R.o;have f0:=aR R.o 0;have f1:=aR R.o 1;have f2:=aR R.o 2;have f3:=aR R.o 3;have f4:=aR R.o 4;clear p t v a x0 x1 x2 x3 x4;go_wp2;refine bR (.tuple #[.agg #[.string c.id,.string c.aC6,.string c.aCZ,.slice aj c.aCJ.length ak,.slice al c.log.length an],.bool true]) ?_;refine .inr ⟨c,_,_,q.o,rfl,aM.less ?_ l.o.size,aM.less ?_ l.o.size,ZK ab.o (Nat.le_succ _)⟩
  .repeat (refine aM.aDD bP ?_ P.o zL)
   exact ae.o
  .repeat (refine aM.aDD cC ?_ P.o zL)
   exact af.o
theorem vU{L:List Tok}{p:PS}(T:Toks L)(hp:p.at_<L.length)(g:Nat)(w:World)(h:PW L w g p):
 Calls prog 262 #[.pointer (some ⟨g,0,none⟩)] w (eP L g w (oF (cD L p).1) (cD L p).2):=by
 have P:=h.lt;have H:=aA h;have h1:=dP T [str "subject",str "action",str "case",str "env"] hp;have h2:=fY T (str ".") h1.lt;have h3:=jC T h2.lt;have n:=aA (fun a c w h hw=>mZ T [str "subject",str "action",str "case",str "env"] a c 4 rfl qe hp g w h hw);have o:=aA (fun w h=>mB T (str ".") h1.lt g w h);have D:=aA (fun w h=>qZ T h2.lt g w h);have q:=aA (fun w h=>eJ T (str "!") h3.lt g w h);unfold eP cD;dsimp only;clear h h1 h2 h3;generalize aZ L [str "subject",str "action",str "case",str "env"] p=m at *;generalize eG L (str ".") m.2=I at *;generalize bS L I=s at *;generalize kJ L (str "!") s.2=J at *;rw[Ge,Mv,Wq,Ze] at n;rw[Zd] at o;rw[Wp] at q;go_enter func262,ntmps262;go_wp2_with fail;obtain⟨b0,b1,Q,r⟩:=rB (w:=w) (aB ((w.alloc (.cells #[.int .i64 0,.string ⟨#[]⟩,.bool false] 286)).alloc (.cells #[.int .i64 0,.string ⟨#[]⟩,.bool false] 286)) (.cells #[.string ⟨#[115,117,98,106,101,99,116]⟩,.string ⟨#[97,99,116,105,111,110]⟩,.string ⟨#[99,97,115,101]⟩,.string ⟨#[101,110,118]⟩] 9));have z:Hid (cV w.heap.size g w _):=aA (aJ r);refine(n.o _ _ _ (H.o.on r) (nA _ _ _ _ _ qs rfl)).mono ?_;rintro e w1 ⟨rfl,h1,i⟩;have A:=aA (z.o.aCV i);have b0:=aF b0 i qo;have b1:=aF b1 i qo;obtain⟨⟨t,v,x⟩,f0,f1,f2⟩:=cE b1;obtain⟨f,d,H1⟩:=aY b0 b1 h1;clear n z H r i h1 b0 b1;go_wp2_with fail;refine(o.o _ (H1.o.set qo)).mono ?_;rintro e w2 ⟨rfl,h2,j⟩;obtain⟨B,f,d,E⟩:=dC ((A.o.set (b:=w.heap.size+1) qo).aCV j) (aF (bE f.o qo) j qo) (aF (aG d.o 0 _) j qo:w2.heap[w.heap.size+1]? =some (.cells #[.int .i64 m.1,.string ⟨#[]⟩,.bool false] 286 (0,0))) (D.o _ h2)
 clear o A H1 h2 j D t v x f0 f1 f2;go_wp2_with fail;refine(E.o).mono ?_;rintro e S ⟨rfl,h3,k⟩;obtain⟨C,f,d⟩:=aY (B.o.aCV k) (aF f.o k qo) (aF d.o k qo);obtain⟨⟨t,v,x⟩,f0,f1,f2⟩:=cE d.o;have y:=aA h3;clear E B h3 k;go_wp2_with fail;refine(q.o _ (y.o.set qo)).mono ?_;rintro e K ⟨rfl,h4,l⟩;obtain⟨G,f,d⟩:=aY ((C.o.set (b:=w.heap.size+1) qo).aCV l) (aF (bE f.o qo) l qo) (aF (aG d.o 1 _) l qo:K.heap[w.heap.size+1]? =some (.cells #[.int .i64 m.1,.string s.1,.bool false] 286 (0,0)));obtain⟨⟨U,V,W⟩,g0,g1,g2⟩:=cE d.o;obtain⟨⟨z0,X,z2⟩,M,N,O⟩:=cE f.o;have R:=aD d.o;have F:=aA h4;clear q C y h4 l t v x f0 f1 f2;go_wp2;refine bR (.agg #[.int .i64 m.1,.string s.1,.bool J.1]) ?_;refine⟨rfl,?_,?_⟩
 .exact(((F.o.set qo).set qo).set qo).set qo
 .exact cV.end ((((G.o.set qo).set qo).set qo).set qo)
theorem Rr{p:Prop}(h:p:=by
 refine⟨rfl,?_,?_⟩
 .exact(((((H1.o.step (by go_num)).set qo).set qo).set qo).alloc).alloc
 .exact cV.end ((((((cV.step (aJ HB1.o)).set qo).set qo).set qo).alloc).alloc)):p:=h
theorem Rt{p:Prop}(h:p:=by
 rw[iP hb];have db:(p.bad != 0)=true:=bne_iff_ne.2 hb;clear hb;go_enter func263,ntmps263;go_wp2_with fail;refine(HH.o _ (H.o.on (aB w _))).mono ?_;rintro e w1 ⟨rfl,hb1⟩;have HB0:=aA (aE (heap_alloc_new w (.cells fT 44)) hb1);have HB1:=aA (aC (aB w (.cells fT 44)) hb1);have h1:=H.o.on HB1.o;obtain⟨A,c,c0,c1,c2,c3,c4,hs⟩:=h1.cells;have f1:=h1.free 1;have hgl1:=h1.lt;obtain⟨⟨y0,y1,y2⟩,g0,g1,g2⟩:=cE HB0.o;have hz1:=aD HB0.o;have H1:=aA h1;clear hb1 hs h1 c0 c2 c4 HH H;go_wp2;refine bR (.agg #[.int .i64 0,.int .i64 0,.string ⟨#[]⟩]) ?_;refine⟨rfl,?_,?_⟩
 .exact((((H1.o.set qo).set qo).set qo).alloc).alloc
 .exact cV.end (((((cV.set (aJ HB1.o) qo).set qo).set qo).alloc).alloc)):p:=h
theorem nJ{L:List Tok}{p:PS}{v:V3}{q:PS}(h:eO L p=(v,q)):cX L p=if q.bad≠0 then (bD,q) else (v,{q with at_:=q.at_+1}):=by rw[yY,h]
theorem Tx{L:List Tok}{p:PS}(hp:p.at_<L.length)(d:L.length<=5000)(g:Nat)(w:World)(h:PW L w g p)(a:(aU L p).aCF=2):
 Calls prog 263 #[.pointer (some ⟨g,0,none⟩)] w (eP L g w (dA (cX L p).1) (cX L p).2):=by
 have f:=h.lt;have H:=aA h;have HH:=aA (fun w h=>gG hp d g w h);have b:eO L p=((2,(aU L p).num,(aU L p).str),p):=by
  unfold eO;dsimp only;rw[iP a]
 rw[nJ b];unfold eP;unfold gY at HH;generalize aU L p=t at *;clear h b;have d2:(t.aCF==2)=true:=bQ.2 a;clear a;have i:(0:Int)<=p.at_:=qo;have i2:(p.at_:Int)<=5000:=qo;by_cases hb:p.bad=0
 .rw[iN (fun h=>h hb)];go_enter func263,ntmps263;go_wp2_with fail;refine(HH.o _ (H.o.on (aB w _))).mono ?_;rintro e w1 ⟨rfl,hb1⟩;have HB0:=aA (aE (heap_alloc_new w (.cells fT 44)) hb1);have HB1:=aA (aC (aB w (.cells fT 44)) hb1);have h1:=H.o.on HB1.o;obtain⟨A,c,c0,c1,c2,c3,c4,hs⟩:=h1.cells;have f1:=h1.free 1;have hgl1:=h1.lt;obtain⟨⟨y0,y1,y2⟩,g0,g1,g2⟩:=cE HB0.o;have hz1:=aD HB0.o;have H1:=aA h1;clear hb1 hs h1 c0 c2 c4 HH H;rw[hb] at c3;clear hb;go_wp2;refine bR (.agg #[.int .i64 2,.int .i64 t.num,.string t.str]) ?_;exact Rr
 .exact Rt
theorem Ty{L:List Tok}{p:PS}(hp:p.at_<L.length)(d:L.length<=5000)(g:Nat)(w:World)(h:PW L w g p)(a:(aU L p).aCF=3):
 Calls prog 263 #[.pointer (some ⟨g,0,none⟩)] w (eP L g w (dA (cX L p).1) (cX L p).2):=by
 have f:=h.lt;have H:=aA h;have HH:=aA (fun w h=>gG hp d g w h);have b:eO L p=((4,(aU L p).num,(aU L p).str),p):=by
  unfold eO;dsimp only;rw[iN qo];rw[iP a]
 rw[nJ b];unfold eP;unfold gY at HH;generalize aU L p=t at *;clear h b;have d2:(t.aCF==2)=false:=bN.2 qo;have d3:(t.aCF==3)=true:=bQ.2 a;clear a;have i:(0:Int)<=p.at_:=qo;have i2:(p.at_:Int)<=5000:=qo;by_cases hb:p.bad=0
 .rw[iN (fun h=>h hb)];go_enter func263,ntmps263;go_wp2_with fail;refine(HH.o _ (H.o.on (aB w _))).mono ?_;rintro e w1 ⟨rfl,hb1⟩;have HB0:=aA (aE (heap_alloc_new w (.cells fT 44)) hb1);have HB1:=aA (aC (aB w (.cells fT 44)) hb1);have h1:=H.o.on HB1.o;obtain⟨A,c,c0,c1,c2,c3,c4,hs⟩:=h1.cells;have f1:=h1.free 1;have hgl1:=h1.lt;obtain⟨⟨y0,y1,y2⟩,g0,g1,g2⟩:=cE HB0.o;have hz1:=aD HB0.o;have H1:=aA h1;clear hb1 hs h1 c0 c2 c4 HH H;rw[hb] at c3;clear hb;go_wp2;refine bR (.agg #[.int .i64 4,.int .i64 t.num,.string t.str]) ?_;exact Rr
 .exact Rt
theorem Tz{L:List Tok}{p:PS}(hp:p.at_<L.length)(d:L.length<=5000)(g:Nat)(w:World)(h:PW L w g p)(a:(aU L p).aCF=4):
 Calls prog 263 #[.pointer (some ⟨g,0,none⟩)] w (eP L g w (dA (cX L p).1) (cX L p).2):=by
 have f:=h.lt;have H:=aA h;have HH:=aA (fun w h=>gG hp d g w h);have b:eO L p=((5,(aU L p).num,(aU L p).str),p):=by
  unfold eO;dsimp only;rw[iN qo];rw[iN qo];rw[iP a]
 rw[nJ b];unfold eP;unfold gY at HH;generalize aU L p=t at *;clear h b;have d2:(t.aCF==2)=false:=bN.2 qo;have d3:(t.aCF==3)=false:=bN.2 qo;have d4:(t.aCF==4)=true:=bQ.2 a;clear a;have i:(0:Int)<=p.at_:=qo;have i2:(p.at_:Int)<=5000:=qo;by_cases hb:p.bad=0
 .rw[iN (fun h=>h hb)];go_enter func263,ntmps263;go_wp2_with fail;refine(HH.o _ (H.o.on (aB w _))).mono ?_;rintro e w1 ⟨rfl,hb1⟩;have HB0:=aA (aE (heap_alloc_new w (.cells fT 44)) hb1);have HB1:=aA (aC (aB w (.cells fT 44)) hb1);have h1:=H.o.on HB1.o;obtain⟨A,c,c0,c1,c2,c3,c4,hs⟩:=h1.cells;have f1:=h1.free 1;have hgl1:=h1.lt;obtain⟨⟨y0,y1,y2⟩,g0,g1,g2⟩:=cE HB0.o;have hz1:=aD HB0.o;have H1:=aA h1;clear hb1 hs h1 c0 c2 c4 HH H;rw[hb] at c3;clear hb;go_wp2;refine bR (.agg #[.int .i64 5,.int .i64 t.num,.string t.str]) ?_;exact Rr
 .exact Rt
theorem Ua{L:List Tok}{p:PS}(hp:p.at_<L.length)(d:L.length<=5000)(g:Nat)(w:World)(h:PW L w g p)(a:(aU L p).aCF=5):
 Calls prog 263 #[.pointer (some ⟨g,0,none⟩)] w (eP L g w (dA (cX L p).1) (cX L p).2):=by
 have f:=h.lt;have H:=aA h;have HH:=aA (fun w h=>gG hp d g w h);have b:eO L p=((3,(aU L p).num,(aU L p).str),p):=by
  unfold eO;dsimp only;rw[iN qo];rw[iN qo];rw[iN qo];rw[iP a]
 rw[nJ b];unfold eP;unfold gY at HH;generalize aU L p=t at *;clear h b;have d2:(t.aCF==2)=false:=bN.2 qo;have d3:(t.aCF==3)=false:=bN.2 qo;have d4:(t.aCF==4)=false:=bN.2 qo;have d5:(t.aCF==5)=true:=bQ.2 a;clear a;have i:(0:Int)<=p.at_:=qo;have i2:(p.at_:Int)<=5000:=qo;by_cases hb:p.bad=0
 .rw[iN (fun h=>h hb)];go_enter func263,ntmps263;go_wp2_with fail;refine(HH.o _ (H.o.on (aB w _))).mono ?_;rintro e w1 ⟨rfl,hb1⟩;have HB0:=aA (aE (heap_alloc_new w (.cells fT 44)) hb1);have HB1:=aA (aC (aB w (.cells fT 44)) hb1);have h1:=H.o.on HB1.o;obtain⟨A,c,c0,c1,c2,c3,c4,hs⟩:=h1.cells;have f1:=h1.free 1;have hgl1:=h1.lt;obtain⟨⟨y0,y1,y2⟩,g0,g1,g2⟩:=cE HB0.o;have hz1:=aD HB0.o;have H1:=aA h1;clear hb1 hs h1 c0 c2 c4 HH H;rw[hb] at c3;clear hb;go_wp2;refine bR (.agg #[.int .i64 3,.int .i64 t.num,.string t.str]) ?_;exact Rr
 .exact Rt
end Go.Proofs.YtlfngkelmbdehaaGreatDoor
