/- Lemmas. -/
import Derived.Test.YthcgdgkpgdjahaaGreatDoorMal
namespace Go.Proofs.YthcgdgkpgdjahaaGreatDoor
open Go.RowKit
set_option linter.unusedVariables false
set_option linter.unusedSimpArgs false
set_option maxHeartbeats 16000000
open _root_.Go.Proofs.Tryz
set_option maxRecDepth 20000
theorem QDb{p:Prop}(h:p:=by
 obtain⟨u,hu,hu2⟩:=cN.1 hb;injection hu with hu;subst hu;exact(hat b hu2).imp (own b) id):p:=h
theorem QCo{p:Prop}(h:p:=by
 obtain⟨u,hu,hu2⟩:=cN.1 hb;injection hu with hu;subst hu
 rcases hat b hu2 with h2|h2
 .exact hK b hKb h2.symm
 .have:=(h.kept b hKb).1;omega):p:=h
section
variable {K:nP} {base:Nat} {w w' w1:World} {s:Sto} {L:List Mix} {ro:Option Value} {vr vn vo vt vu vk vb:Value} {g n c k:Nat}
theorem bD.beside{vc:Value}(h:bD K base w s L ro vc vr vn vo vt vu vk vb)(d:k<L.length):(∀b,bP L[k].2.1=some b->∀j (hj:j<L.length),(j≠k->bP L[j].2.1≠some b)/\bP L[j].2.2≠some b)/\(∀b,bP L[k].2.2=some b->∀j (hj:j<L.length),(j≠k->bP L[j].2.2≠some b)/\bP L[j].2.1≠some b):=by
 have ha:=DQ.1 h.apart;have ne:∀i j (f:i<L.length) (hj:j<L.length) b,bP L[i].2.1=some b->bP L[j].2.2=some b->False:=fun i j f hj b h1 h2=>by
  obtain⟨u,_,g,g1,_⟩:=h.aEv f h1;obtain⟨m,_,l,g2,_⟩:=h.aEw hj h2;exact dS g1 g2 qe g l.symm
 exact⟨fun b c j hj=>⟨fun e a=>(ha k j d hj (Ne.symm e)).1 b c a,fun a=>ne k j d hj b c a⟩,fun b c j hj=>⟨fun e a=>(ha k j d hj (Ne.symm e)).2 b c a,fun a=>ne j k hj d b a c⟩⟩
theorem tY{L:List Mix}{l:List cB}(h:L.map Prod.fst=l)(k:Nat)(x:Mix):(L.set k x).map Prod.fst=l.set k x.1:=by rw[List.map_set,h]
theorem bD.rest(h:bD K base w s L ro (.slice (some ⟨g,0,none⟩) n c) vr vn vo vt vu vk vb){q:nP}(f:aN q w w1)(k:∀b,K b->q b)(z:∀b,vr.ownBlock=some b->q b)(v:∀b,vn.ownBlock=some b->q b)(y:∀b,bP ro=some b->q b)
 {a:List Mix}{l':List cB}(m:a.map Prod.fst=l')(t:∀j (hj:j<a.length),a[j].2.2.isSome=true)(o:pV a)(r:∀j (hj:j<a.length),(∀b,bP a[j].2.1=some b->¬K b)/\(∀b,bP a[j].2.2=some b->¬K b)){i:Nat}{x:Value}
 (p:aM (eC base K) 5 113 (w1.setCell ⟨g,i,none⟩ x) base (fun b=>K b\/base<=b) (.slice (some ⟨g,0,none⟩) n c) a):bD K base (w1.setCell ⟨g,i,none⟩ x) {s with aDO:=l'} a ro (.slice (some ⟨g,0,none⟩) n c) vr vn vo vt vu vk vb:={
 aDX:=h.aDX
 aD0:=h.aD0
 all:=m
 aEf:=t
 apart:=o
 aDO:=p
 aDQ:=aM.off cV (h.aDQ.stays cV f z (fun _ h _=>h.elim)) (fun h=>h) (fun e=>dS h.aDQ h.aDO qe e rfl)
 aDV:=aM.off eD (h.aDV.stays eD f v (fun _ h _=>h.elim)) (fun h=>h) (fun e=>dS h.aDV h.aDO qe e rfl)
 aD1:=(h.aD1.aEr dB f k y (fun _ h _=>h)).aEr (q:=fun b=>b≠g) dB (aI x) (fun b d e=>(h.kept b d).2.1 (by rw[e];rfl)) (fun b e l=>by
  obtain⟨u,h2,h3⟩:=h.rol e;exact dS h3 h.aDO qe h2 (by rw[l];rfl)) (fun _ h _=>h)
 aDP:=(h.aDP.aDW (f.mono fun b _ d=>k b d)).aDW (fI (fun d=>(h.kept g d).2.1 rfl))
 kept:=fun b d=>⟨by rw[jT];exact lL (h.kept b d).1 f.size,(h.kept b d).2⟩
 aEi:=r
 aEq:=h.aEq
 size:=by rw[jT];exact lT h.size f.size}
theorem AJ{L:List Mix}(h:∀j (hj:j<L.length),L[j].2.2.isSome=true){k:Nat}{x:Mix}(a:x.2.2.isSome=true):∀j (hj:j<(L.set k x).length),(L.set k x)[j].2.2.isSome=true:=by
 intro j hj;rw[List.length_set] at hj;rw[List.getElem_set];split
 .exact a
 .exact h j hj
theorem AK{K:nP}{L:List Mix}(h:∀j (hj:j<L.length),(∀b,bP L[j].2.1=some b->¬K b)/\(∀b,bP L[j].2.2=some b->¬K b)){k:Nat}{x:Mix}(a:(∀b,bP x.2.1=some b->¬K b)/\(∀b,bP x.2.2=some b->¬K b)):∀j (hj:j<(L.set k x).length),(∀b,bP (L.set k x)[j].2.1=some b->¬K b)/\(∀b,bP (L.set k x)[j].2.2=some b->¬K b):=by
 intro j hj;rw[List.length_set] at hj;rw[List.getElem_set];split
 .exact a
 .exact h j hj
theorem bD.log(h:bD K base w s L ro (.slice (some ⟨g,0,none⟩) n c) vr vn vo vt vu vk vb)(a:k<L.length){v v':Value}(q:L[k].2.2=some v){d:List uI}(z:w.grownBy w1 v.ownBlock)(m:aM nB 3 173 w1 base (fun _=>False) v' d)(hat:∀b,v'.ownBlock=some b->v.ownBlock=some b\/w.heap.size<=b)(hlen:d.length<=1000000):
 bD K base (w1.setCell ⟨g,k * 5+4,none⟩ v') {s with aDO:=s.aDO.set k {L[k].1 with log:=d}} (L.set k ({L[k].1 with log:=d},L[k].2.1,some v')) ro (.slice (some ⟨g,0,none⟩) n c) vr vn vo vt vu vk vb:=by
 have l:=cX z;have f:=(kO h.aDO a).2 v q;have H:g<w.heap.size:=(h.aDO.lt g rfl).2;have own:∀b,v.ownBlock=some b->bP L[k].2.2=some b:=fun b hb=>cN.2 ⟨v,q,hb⟩
 have hK:∀b,K b->some b≠v.ownBlock:=fun b hb e=>(h.aEi k a).2 b (own b e.symm) hb
 have o:some g≠v.ownBlock:=fun e=>f.2.1 g e.symm rfl
 have B:∀b,v'.ownBlock=some b->b≠g:=fun b hb e=>by
  rcases hat b hb with h2|h2
  .exact o (by rw[h2,e])
  .omega
 have t:=NS (v:=v') (y:=({L[k].1 with log:=d},L[k].2.1,some v')) h.aDO a (j:=4) qe l o hK
  (fun i p A=>⟨fun b hb e=>((h.beside a).2 b (own b e.symm) i p).2 hb,fun b hb e=>((h.beside a).2 b (own b e.symm) i p).1 A hb⟩)
  (by
    rintro r ⟨G,I,rfl,C,D,E,F,p5⟩;refine⟨G,v',rfl,C,D,E,?_,rfl,m,fun b hb=>⟨.inr (m.lt b hb).1,(m.lt b hb).2,B b hb⟩,hlen⟩;exact F.aEr bS l hK (fun b hb e=>((h.beside a).2 b (own b e.symm) k a).2 hb) (fun b hb _=>⟨hb.1,lL hb.2.1 l.size,hb.2.2⟩))
 refine h.rest l hK (fun b hb=>dS h.aDQ f.1 qe hb) (fun b hb=>dS h.aDV f.1 qe hb) (fun b e=> ?_) (tY h.all k ({L[k].1 with log:=d},L[k].2.1,some v')) (AJ (x:=({L[k].1 with log:=d},L[k].2.1,some v')) h.aEf rfl) (xK (x:=({L[k].1 with log:=d},L[k].2.1,some v')) h.apart a h.lt (fun b hb=> .inl hb) (fun b hb=> ?_)) (AK (x:=({L[k].1 with log:=d},L[k].2.1,some v')) h.aEi ⟨(h.aEi k a).1,fun b hb hKb=> ?_⟩) t
 .obtain⟨u,h2,h3⟩:=h.rol e;exact dS h3 f.1 qe h2
 .exact QDb
 .exact QCo
theorem bD.aDT(h:bD K base w s L ro (.slice (some ⟨g,0,none⟩) n c) vr vn vo vt vu vk vb)(a:k<L.length){v v':Value}(q:L[k].2.1=some v){d:List qE}(z:w.grownBy w1 v.ownBlock)(m:aM lO 4 185 w1 base (fun _=>False) v' d)(hat:∀b,v'.ownBlock=some b->v.ownBlock=some b\/w.heap.size<=b)(hlen:d.length<=1000000):
 bD K base (w1.setCell ⟨g,k * 5+3,none⟩ v') {s with aDO:=s.aDO.set k {L[k].1 with aDT:=d}} (L.set k ({L[k].1 with aDT:=d},some v',L[k].2.2)) ro (.slice (some ⟨g,0,none⟩) n c) vr vn vo vt vu vk vb:=by
 have l:=cX z;have f:=(kO h.aDO a).1 v q;have G:g<w.heap.size:=(h.aDO.lt g rfl).2;have own:∀b,v.ownBlock=some b->bP L[k].2.1=some b:=fun b hb=>cN.2 ⟨v,q,hb⟩
 have hK:∀b,K b->some b≠v.ownBlock:=fun b hb e=>(h.aEi k a).1 b (own b e.symm) hb
 have o:some g≠v.ownBlock:=fun e=>f.2.1 g e.symm rfl
 have B:∀b,v'.ownBlock=some b->b≠g:=fun b hb e=>by
  rcases hat b hb with h2|h2
  .exact o (by rw[h2,e])
  .omega
 have t:=NS (v:=v') (y:=({L[k].1 with aDT:=d},some v',L[k].2.2)) h.aDO a (j:=3) qe l o hK
  (fun i p A=>⟨fun b hb e=>((h.beside a).1 b (own b e.symm) i p).1 A hb,fun b hb e=>((h.beside a).1 b (own b e.symm) i p).2 hb⟩)
  (by
    rintro r ⟨I,F,rfl,C,D,E,H,p5⟩;refine⟨v',F,rfl,C,D,E,⟨rfl,m,fun b hb=>⟨.inr (m.lt b hb).1,(m.lt b hb).2,B b hb⟩,hlen⟩,?_⟩;exact p5.aEr cE l hK (fun b hb e=>((h.beside a).1 b (own b e.symm) k a).2 hb) (fun b hb _=>⟨hb.1,lL hb.2.1 l.size,hb.2.2⟩))
 refine h.rest l hK (fun b hb=>dS h.aDQ f.1 qe hb) (fun b hb=>dS h.aDV f.1 qe hb) (fun b e=> ?_) (tY h.all k ({L[k].1 with aDT:=d},some v',L[k].2.2)) (AJ (x:=({L[k].1 with aDT:=d},some v',L[k].2.2)) h.aEf (h.aEf k a)) (xK (x:=({L[k].1 with aDT:=d},some v',L[k].2.2)) h.apart a h.lt (fun b hb=> ?_) (fun b hb=> .inl hb)) (AK (x:=({L[k].1 with aDT:=d},some v',L[k].2.2)) h.aEi ⟨fun b hb hKb=> ?_,(h.aEi k a).2⟩) t
 .obtain⟨u,h2,h3⟩:=h.rol e;exact dS h3 f.1 qe h2
 .exact QDb
 .exact QCo
theorem bD.aD9(h:bD K base w s L ro (.slice (some ⟨g,0,none⟩) n c) vr vn vo vt vu vk vb)(a:k<L.length){to_:bY}(i:to_.size<=cQ):
 bD K base (w.setCell ⟨g,k * 5+2,none⟩ (.string to_)) {s with aDO:=s.aDO.set k {L[k].1 with aD9:=to_}} (L.set k ({L[k].1 with aD9:=to_},L[k].2.1,L[k].2.2)) ro (.slice (some ⟨g,0,none⟩) n c) vr vn vo vt vu vk vb:=by
 have e:aN (fun _=>True) w w:=aN.refl _ w;have f:=NS (v:= .string to_) (y:=({L[k].1 with aD9:=to_},L[k].2.1,L[k].2.2)) h.aDO a (j:=2) qe e trivial (fun _ _=>trivial) (fun _ _ _=>⟨fun _ _=>trivial,fun _ _=>trivial⟩)
  (by
    rintro r ⟨p,q,rfl,l,m,t,o,p5⟩;exact⟨p,q,rfl,l,m,i,o,p5⟩)
 exact h.rest e (fun _ _=>trivial) (fun _ _=>trivial) (fun _ _=>trivial) (fun _ _=>trivial) (tY h.all k ({L[k].1 with aD9:=to_},L[k].2.1,L[k].2.2)) (AJ h.aEf (x:=({L[k].1 with aD9:=to_},L[k].2.1,L[k].2.2)) (h.aEf k a)) (xK (x:=({L[k].1 with aD9:=to_},L[k].2.1,L[k].2.2)) h.apart a h.lt (fun b d=> .inl d) (fun b d=> .inl d)) (AK h.aEi (x:=({L[k].1 with aD9:=to_},L[k].2.1,L[k].2.2)) (h.aEi k a)) f
end
section
variable {K:nP} {base:Nat} {w w' w1:World} {s:Sto} {L:List Mix} {ro:Option Value} {vc vr vn vo vt vu vk vb:Value} {g n c k:Nat}
theorem bD.aD7(h:bD K base w s L ro vc vr vn vo vt vu vk vb)(c:k<L.length){v:Value}(g:L[k].2.1=some v){f:List qE}(d:aN (fun b=>some b≠v.ownBlock) w w')(q:aM lO 4 185 w' base (fun _=>False) v f)(hlen:f.length=L[k].1.aDT.length):
 bD K base w' {s with aDO:=s.aDO.set k {L[k].1 with aDT:=f}} (L.set k ({L[k].1 with aDT:=f},some v,L[k].2.2)) ro vc vr vn vo vt vu vk vb:=by
 have l:=(kO h.aDO c).1 v g;have own:∀b,v.ownBlock=some b->bP L[k].2.1=some b:=fun b a=>cN.2 ⟨v,g,a⟩
 have j:∀b,K b->some b≠v.ownBlock:=fun b a e=>(h.aEi k c).1 b (own b e.symm) a
 have t:=Qg h.aDO d (fun b a=>dS h.aDO l.1 qe a) c (y:=({L[k].1 with aDT:=f},some v,L[k].2.2)) j
  (fun i n z=>⟨fun b a e=>((h.beside c).1 b (own b e.symm) i n).1 z a,fun b a e=>((h.beside c).1 b (own b e.symm) i n).2 a⟩)
  (by
    rintro r ⟨E,F,rfl,A,B,C,o,p5⟩;rw[g] at o;obtain⟨p,q1,m,D⟩:=o;subst p;refine⟨E,F,rfl,A,B,C,⟨rfl,q,fun b a=>⟨(m b a).1,lL (m b a).2.1 d.size,(m b a).2.2⟩,by rw[hlen];exact D⟩,?_⟩;exact p5.aEr cE d j (fun b a e=>((h.beside c).1 b (own b e.symm) k c).2 a) (fun b a _=>⟨a.1,lL a.2.1 d.size,a.2.2⟩))
 exact {aEq:=h.aEq,aDX:=h.aDX,aD0:=h.aD0,all:=tY h.all k ({L[k].1 with aDT:=f},some v,L[k].2.2),aEf:=AJ (x:=({L[k].1 with aDT:=f},some v,L[k].2.2)) h.aEf (h.aEf k c),apart:=xK (x:=({L[k].1 with aDT:=f},some v,L[k].2.2)) h.apart c h.lt (fun b a=> .inl (by rw[g];exact a)) (fun b a=> .inl a),aDO:=t,aDQ:=h.aDQ.stays cV d (fun b a=>dS h.aDQ l.1 qe a) (fun _ h _=>h.elim),aDV:=h.aDV.stays eD d (fun b a=>dS h.aDV l.1 qe a) (fun _ h _=>h.elim),aD1:=h.aD1.aEr dB d j (fun b e=>by obtain⟨u,h2,h3⟩:=h.rol e;exact dS h3 l.1 qe h2) (fun _ h _=>h),aDP:=h.aDP.aDW (d.mono fun b _ a=>j b a),kept:=fun b a=>⟨lL (h.kept b a).1 d.size,(h.kept b a).2⟩,aEi:=AK (x:=({L[k].1 with aDT:=f},some v,L[k].2.2)) h.aEi ⟨fun b a=>(h.aEi k c).1 b (by rw[g];exact a),(h.aEi k c).2⟩,size:=lT h.size d.size}
theorem bD.close(h:bD K base w s L ro vc (.slice (some ⟨g,0,none⟩) n c) vn vo vt vu vk vb)(m:k<s.aDQ.length){b:Bool}:
 bD K base (w.setCell ⟨g,k * 7+6,none⟩ (.bool b)) {s with aDQ:=s.aDQ.set k {s.aDQ[k] with open_:=b}} L ro vc (.slice (some ⟨g,0,none⟩) n c) vn vo vt vu vk vb:=by
 have a:=aM.setAt cV (j:=6) (x:= .bool b) (y:={s.aDQ[k] with open_:=b}) h.aDQ m qe (by rintro r ⟨rfl,p⟩;exact⟨rfl,p⟩);have f:w.grownBy (w.setCell ⟨g,k * 7+6,none⟩ (.bool b)) (some g):=by
  have h1:=aI (w:=w) (g:=g) (i:=k * 7+6) (.bool b);exact⟨h1.os,h1.tape,h1.output,h1.size,fun i l o=>h1.block i l (fun e=>o (by rw[e]))⟩
 exact h.aEa f a (fun b d=> .inl d)
theorem bD.insert(h:bD K base w s L ro vc vr vn vo vt vu vk vb)(E:k<=L.length){xs cs:List Value}(J:w.ownsRow base 113 5 vc L.length xs/\aW (eC base K w (fun b=>(K b\/base<=b)/\b<w.heap.size/\some b≠vc.ownBlock)) xs L)
 {x:Mix}(I:eC base K w (fun b=>(K b\/base<=b)/\b<w.heap.size/\some b≠vc.ownBlock) cs x)(H:x.2.2.isSome=true){m:Nat}(hm:∀j (hj:j<L.length),(∀b,bP L[j].2.1=some b->b<m)/\(∀b,bP L[j].2.2=some b->b<m))(h1:∀b,bP x.2.1=some b->m<=b)(h2:∀b,bP x.2.2=some b->m<=b)(p:∀b,K b->m<=b->bP x.2.1≠some b/\bP x.2.2≠some b)
 {A:oD}{f:Nat}(G:w'.ownsRow base 113 5 (.slice A (L.length+1) f) (L.length+1) (xs.take (k * 5)++cs++xs.drop (k * 5)))(D:w.grownBy w' vc.ownBlock)(q:∀b,(Value.slice A (L.length+1) f).ownBlock=some b->vc.ownBlock=some b\/w.heap.size<=b)
 (t:∀b,bP x.2.1=some b\/bP x.2.2=some b->some b≠vc.ownBlock):
 bD K base w' {s with aDO:=s.aDO.take k++[x.1]++s.aDO.drop k} (L.take k++[x]++L.drop k) ro (.slice A (L.length+1) f) vr vn vo vt vu vk vb:=by
 have d:=cX D;have l:∀b,K b->some b≠vc.ownBlock:=fun b a=>(h.kept b a).2.1
 have y:(L.take k++[x]++L.drop k).length=L.length+1:=by simp only[aL,List.length_take,List.length_drop,List.length_cons,List.length_nil];omega
 have F:∀b,(K b\/base<=b)/\b<w.heap.size/\some b≠vc.ownBlock->b<w.heap.size->(K b\/base<=b)/\b<w'.heap.size/\some b≠(Value.slice A (L.length+1) f).ownBlock:=fun b a _=>⟨a.1,lL a.2.1 d.size,fun e=>by
  rcases q b e.symm with h3|h3
  .exact a.2.2 h3.symm
  .have:=a.2.1;omega⟩
 have C:∀r z,(z=x\/∃j,∃hj:j<L.length,z=L[j])->eC base K w (fun b=>(K b\/base<=b)/\b<w.heap.size/\some b≠vc.ownBlock) r z->eC base K w' (fun b=>(K b\/base<=b)/\b<w'.heap.size/\some b≠(Value.slice A (L.length+1) f).ownBlock) r z:=fun r z v g=>by
  refine AI g d l (fun b a=> ?_) (fun b a=> ?_) F
  .rcases v with rfl|⟨j,hj,rfl⟩
   .exact t b (.inl a)
   .obtain⟨u,_,_,_,h5⟩:=h.aEv hj a;exact h5
  .rcases v with rfl|⟨j,hj,rfl⟩
   .exact t b (.inr a)
   .obtain⟨u,_,_,_,h5⟩:=h.aEw hj a;exact h5
 have B:aW (eC base K w (fun b=>(K b\/base<=b)/\b<w.heap.size/\some b≠vc.ownBlock)) (xs.take (k * 5)++cs++xs.drop (k * 5)) (L.take k++[x]++L.drop k):=by
  have h3:=J.2.split (fun r x g=>(dP base K).len g) k E;exact(h3.1.append (aW.one I)).append h3.2
 have o:∀i (c:i<(L.take k++[x]++L.drop k).length),(L.take k++[x]++L.drop k)[i]=x\/∃j,∃hj:j<L.length,(L.take k++[x]++L.drop k)[i]=L[j]:=fun i c=>by
  have h3:=List.getElem_mem c
  rcases List.mem_append.1 h3 with h4|h4
  .rcases List.mem_append.1 h4 with h5|h5
   .obtain⟨j,hj,e⟩:=List.getElem_of_mem (List.mem_of_mem_take h5);exact .inr ⟨j,hj,e.symm⟩
   .exact .inl (by simpa using h5)
  .obtain⟨j,hj,e⟩:=List.getElem_of_mem (List.mem_of_mem_drop h4);exact .inr ⟨j,hj,e.symm⟩
 refine {aEq:=h.aEq,aDX:=h.aDX,aD0:=h.aD0,all:= ?_,aEf:=fun j hj=> ?_,apart:=Jq h.apart hm h1 h2,aDO:=⟨_,by rw[y];exact G,aW.aEu (fun i c r g=>C r _ (o i c) g) B⟩,aDQ:=h.aDQ.stays cV d (fun b a=>dS h.aDQ h.aDO qe a) (fun _ h _=>h.elim),aDV:=h.aDV.stays eD d (fun b a=>dS h.aDV h.aDO qe a) (fun _ h _=>h.elim),aD1:=h.aD1.aEr dB d l (fun b e=>by obtain⟨u,h2,h3⟩:=h.rol e;exact dS h3 h.aDO qe h2) (fun _ h _=>h),aDP:=h.aDP.aDW (d.mono fun b _ a=>l b a),kept:=fun b a=>⟨lL (h.kept b a).1 d.size,fun e=> ?_,(h.kept b a).2.2⟩,aEi:=fun j hj=> ?_,size:=lT h.size d.size}
 .rw[List.map_append,List.map_append,List.map_take,List.map_drop,h.all];rfl
 .rcases o j hj with e|⟨i,c,e⟩
  .rw[e];exact H
  .rw[e];exact h.aEf i c
 .rcases q b e.symm with h3|h3
  .exact l b a h3.symm
  .have:=(h.kept b a).1;omega
 .rcases o j hj with e|⟨i,c,e⟩
  .rw[e];exact⟨fun b a n=>(p b n (h1 b a)).1 a,fun b a n=>(p b n (h2 b a)).2 a⟩
  .rw[e];exact h.aEi i c
end
def AM(o:Option cB)(w:World)(e:Ending)(w':World):Prop:=(o=none/\e=.returned (.tuple #[.agg #[.string ⟨#[]⟩,.string ⟨#[]⟩,.string ⟨#[]⟩,.slice none 0 0,.slice none 0 0],.bool false])/\Below w.heap.size w w')\/(∃c a b,o=some c/\e=.returned (.tuple #[.agg #[.string c.id,.string c.aEg,.string c.aD9,a,b],.bool true])/\UY c w a b w')
theorem DR{ok:nP}(s:Sto)(vc vr vn vo vt vu vk vb:Value)(N:bY)(w:World)(h:fM w ok s vc vr vn vo vt vu vk vb):Calls prog 41 #[.agg (aX s vc vr vn vo vt vu vk vb),.string N] w (AM (dU s N) w):=by
 obtain⟨Y,Z,ra,rc,na,nc,oa,oc,ta,tc,ua,uc,ka,kc,W,X,rfl,_,rfl,_,rfl,_,rfl,_,rfl,_,rfl,_,rfl,_,rfl,_⟩:=h.sl;obtain⟨W0,g⟩:=xE ((w.alloc (.cells (fU s Y Z ra rc na nc oa oc ta tc ua uc ka kc W X) 62)).alloc (.cells #[.string ⟨#[]⟩,.string ⟨#[]⟩,.string ⟨#[]⟩,.slice none 0 0,.slice none 0 0] 113));have j:Hid (Below w.heap.size w W0):=aA (by rw[g];exact aC (aB _ _) (aB _ _));have A:Hid (W0.heap[w.heap.size]? =some (.cells (fU s Y Z ra rc na nc oa oc ta tc ua uc ka kc W X) 62 (0,0))):=aA (by rw[g];exact aE (aK _ _ _ rfl) (aB _ _));have R:Hid (W0.heap[w.heap.size+1]? =some (.cells #[.string ⟨#[]⟩,.string ⟨#[]⟩,.string ⟨#[]⟩,.slice none 0 0,.slice none 0 0] 113 (0,0))):=aA (by rw[g];exact aK _ _ _ qs);obtain⟨ag,n,O,m⟩:=dH g (JR s _ _ _ _ _ _ _ _ N W0 (h.on j.o)) (aH.on dW h.aDO j.o) (FN s N);obtain⟨⟨i,b⟩,hF⟩:∃F,aV s N=F:=⟨_,rfl⟩;rw[hF] at m n;unfold aP at n;unfold aX at *;have ao:=aA j.o;obtain⟨⟨a0,a1,a2,a3,a4,a5,a6,a7,a8,a9,ah,ai,a12⟩,_⟩:=bW A.o;have za:=aD A.o;clear h g hF;go_enter func41,ntmps41;go_wp2_with fail;rw[<-ag.o];refine n.o.mono ?_;rintro e w1 ⟨rfl,a⟩;have l:=qB j a;have ad:=aA (O.o.on dW a);clear a0 a1 a2 a3 a4 a5 a6 a7 a8 a9 ah ai a12 za;replace A:=qK A a;obtain⟨⟨y,z,E,G,H,I,J,K,L,M,B,C,D⟩,_⟩:=bW A.o;have zA:=aD A.o;replace R:=qK R a;obtain⟨⟨Q,S,T,U,V⟩,_⟩:=dM R.o;have x:=aD R.o;clear a n O
 rcases m.o with ⟨d,f⟩|⟨k,hk,d,f⟩
 .replace f:b=false:=f;subst f;have q:=aA d;clear m d;have f0:=aR R.o 0;have f1:=aR R.o 1;have f2:=aR R.o 2;have f3:=aR R.o 3;have f4:=aR R.o 4;go_wp2;refine bR (.tuple #[.agg #[.string ⟨#[]⟩,.string ⟨#[]⟩,.string ⟨#[]⟩,.slice none 0 0,.slice none 0 0],.bool false]) ?_;exact .inl ⟨q.o,rfl,Bj l.o (Nat.le_succ _)⟩
 .injection d with d e3;subst d e3;obtain⟨b,off,r,rfl,_,aq,⟨vf,vl,rfl,o⟩,aa⟩:=aH.at dW ad.o hk qe;obtain⟨fa,fc,rfl,_⟩:=o.2.2.2.1.slice;obtain⟨la,lc,rfl,_⟩:=o.2.2.2.2.slice;obtain⟨x0,x1,x2,x3,x4⟩:=KP aa;rw[Nat.add_zero] at x0;have ar:(i:Int)<(s.aDO.length:Int):=qo;have q:=aA f;clear m aa f;generalize s.aDO[i]=c at *;have p:=aA (GW c _ _ w1 o);unfold yB UY at p;clear o;go_wp2_with fail;refine p.o.mono ?_;rintro e w2 ⟨au,av,rfl,t,v,a⟩;obtain⟨aj,ak,rfl⟩:=t.slice;obtain⟨al,an,rfl⟩:=v.slice;have P:Hid (w.heap.size+1<w1.heap.size):=aA x;obtain⟨ae,af,ab⟩:=aZ t v (aC l.o a)
  try clear y z E G H I J K L M B C D zA
  replace A:=qK A a;obtain⟨⟨y,z,E,G,H,I,J,K,L,M,B,C,D⟩,_⟩:=bW A.o;have zA:=aD A.o
  try clear Q S T U V x
  replace R:=qK R a;obtain⟨⟨Q,S,T,U,V⟩,_⟩:=dM R.o;have x:=aD R.o;have f0:=aR R.o 0;have f1:=aR R.o 1;have f2:=aR R.o 2;have f3:=aR R.o 3;have f4:=aR R.o 4;clear p t v a x0 x1 x2 x3 x4;go_wp2;refine bR (.tuple #[.agg #[.string c.id,.string c.aEg,.string c.aD9,.slice aj c.aDT.length ak,.slice al c.log.length an],.bool true]) ?_;refine .inr ⟨c,_,_,q.o,rfl,aM.less ?_ l.o.size,aM.less ?_ l.o.size,Bj ab.o (Nat.le_succ _)⟩
  .repeat (refine aM.aEN bS ?_ P.o AH)
   exact ae.o
  .repeat (refine aM.aEN cE ?_ P.o AH)
   exact af.o
theorem wM{L:List Tok}{p:PS}(T:Toks L)(hp:p.at_<L.length)(g:Nat)(w:World)(h:PW L w g p):
 Calls prog 262 #[.pointer (some ⟨g,0,none⟩)] w (eX L g w (oQ (cG L p).1) (cG L p).2):=by
 have P:=h.lt;have H:=aA h;have h1:=dR T [str "subject",str "action",str "case",str "env"] hp;have h2:=gD T (str ".") h1.lt;have h3:=jK T h2.lt;have n:=aA (fun a c w h hw=>nL T [str "subject",str "action",str "case",str "env"] a c 4 rfl qe hp g w h hw);have o:=aA (fun w h=>mO T (str ".") h1.lt g w h);have D:=aA (fun w h=>rP T h2.lt g w h);have q:=aA (fun w h=>eR T (str "!") h3.lt g w h);unfold eX cG;dsimp only;clear h h1 h2 h3;generalize bA L [str "subject",str "action",str "case",str "env"] p=m at *;generalize eN L (str ".") m.2=I at *;generalize bT L I=s at *;generalize kV L (str "!") s.2=J at *;rw[Iv,Ps,Zf,aAV] at n;rw[aAU] at o;rw[Ze] at q;go_enter func262,ntmps262;go_wp2_with fail;obtain⟨b0,b1,Q,r⟩:=rR (w:=w) (aB ((w.alloc (.cells #[.int .i64 0,.string ⟨#[]⟩,.bool false] 277)).alloc (.cells #[.int .i64 0,.string ⟨#[]⟩,.bool false] 277)) (.cells #[.string ⟨#[115,117,98,106,101,99,116]⟩,.string ⟨#[97,99,116,105,111,110]⟩,.string ⟨#[99,97,115,101]⟩,.string ⟨#[101,110,118]⟩] 9));have z:Hid (cZ w.heap.size g w _):=aA (aJ r);refine(n.o _ _ _ (H.o.on r) (nM _ _ _ _ _ qs rfl)).mono ?_;rintro e w1 ⟨rfl,h1,i⟩;have A:=aA (z.o.aD5 i);have b0:=aF b0 i qo;have b1:=aF b1 i qo;obtain⟨⟨t,v,x⟩,f0,f1,f2⟩:=cF b1;obtain⟨f,d,H1⟩:=aZ b0 b1 h1;clear n z H r i h1 b0 b1;go_wp2_with fail;refine(o.o _ (H1.o.set qo)).mono ?_;rintro e w2 ⟨rfl,h2,j⟩;obtain⟨B,f,d,E⟩:=dH ((A.o.set (b:=w.heap.size+1) qo).aD5 j) (aF (bE f.o qo) j qo) (aF (aG d.o 0 _) j qo:w2.heap[w.heap.size+1]? =some (.cells #[.int .i64 m.1,.string ⟨#[]⟩,.bool false] 277 (0,0))) (D.o _ h2)
 clear o A H1 h2 j D t v x f0 f1 f2;go_wp2_with fail;refine(E.o).mono ?_;rintro e S ⟨rfl,h3,k⟩;obtain⟨C,f,d⟩:=aZ (B.o.aD5 k) (aF f.o k qo) (aF d.o k qo);obtain⟨⟨t,v,x⟩,f0,f1,f2⟩:=cF d.o;have y:=aA h3;clear E B h3 k;go_wp2_with fail;refine(q.o _ (y.o.set qo)).mono ?_;rintro e K ⟨rfl,h4,l⟩;obtain⟨G,f,d⟩:=aZ ((C.o.set (b:=w.heap.size+1) qo).aD5 l) (aF (bE f.o qo) l qo) (aF (aG d.o 1 _) l qo:K.heap[w.heap.size+1]? =some (.cells #[.int .i64 m.1,.string s.1,.bool false] 277 (0,0)));obtain⟨⟨U,V,W⟩,g0,g1,g2⟩:=cF d.o;obtain⟨⟨z0,X,z2⟩,M,N,O⟩:=cF f.o;have R:=aD d.o;have F:=aA h4;clear q C y h4 l t v x f0 f1 f2;go_wp2;refine bR (.agg #[.int .i64 m.1,.string s.1,.bool J.1]) ?_;refine⟨rfl,?_,?_⟩
 .exact(((F.o.set qo).set qo).set qo).set qo
 .exact cZ.end ((((G.o.set qo).set qo).set qo).set qo)
theorem Uh{p:Prop}(h:p:=by
 refine⟨rfl,?_,?_⟩
 .exact(((((H1.o.step (by go_num)).set qo).set qo).set qo).alloc).alloc
 .exact cZ.end ((((((cZ.step (aJ HB1.o)).set qo).set qo).set qo).alloc).alloc)):p:=h
theorem Ui{p:Prop}(h:p:=by
 rw[iP hb];have db:(p.bad != 0)=true:=bne_iff_ne.2 hb;clear hb;go_enter func263,ntmps263;go_wp2_with fail;refine(HH.o _ (H.o.on (aB w _))).mono ?_;rintro e w1 ⟨rfl,hb1⟩;have HB0:=aA (aE (heap_alloc_new w (.cells fW 30)) hb1);have HB1:=aA (aC (aB w (.cells fW 30)) hb1);have h1:=H.o.on HB1.o;obtain⟨A,c,c0,c1,c2,c3,c4,hs⟩:=h1.cells;have f1:=h1.free 1;have hgl1:=h1.lt;obtain⟨⟨y0,y1,y2⟩,g0,g1,g2⟩:=cF HB0.o;have hz1:=aD HB0.o;have H1:=aA h1;clear hb1 hs h1 c0 c2 c4 HH H;go_wp2;refine bR (.agg #[.int .i64 0,.int .i64 0,.string ⟨#[]⟩]) ?_;refine⟨rfl,?_,?_⟩
 .exact((((H1.o.set qo).set qo).set qo).alloc).alloc
 .exact cZ.end (((((cZ.set (aJ HB1.o) qo).set qo).set qo).alloc).alloc)):p:=h
theorem nX{L:List Tok}{p:PS}{v:V3}{q:PS}(h:eW L p=(v,q)):dA L p=if q.bad≠0 then (aY,q) else (v,{q with at_:=q.at_+1}):=by rw[zP,h]
theorem Wi{L:List Tok}{p:PS}(hp:p.at_<L.length)(d:L.length<=5000)(g:Nat)(w:World)(h:PW L w g p)(a:(aU L p).aDN=2):
 Calls prog 263 #[.pointer (some ⟨g,0,none⟩)] w (eX L g w (dC (dA L p).1) (dA L p).2):=by
 have f:=h.lt;have H:=aA h;have HH:=aA (fun w h=>gO hp d g w h);have b:eW L p=((2,(aU L p).num,(aU L p).str),p):=by
  unfold eW;dsimp only;rw[iP a]
 rw[nX b];unfold eX;unfold iD at HH;generalize aU L p=t at *;clear h b;have d2:(t.aDN==2)=true:=bQ.2 a;clear a;have i:(0:Int)<=p.at_:=qo;have i2:(p.at_:Int)<=5000:=qo;by_cases hb:p.bad=0
 .rw[iN (fun h=>h hb)];go_enter func263,ntmps263;go_wp2_with fail;refine(HH.o _ (H.o.on (aB w _))).mono ?_;rintro e w1 ⟨rfl,hb1⟩;have HB0:=aA (aE (heap_alloc_new w (.cells fW 30)) hb1);have HB1:=aA (aC (aB w (.cells fW 30)) hb1);have h1:=H.o.on HB1.o;obtain⟨A,c,c0,c1,c2,c3,c4,hs⟩:=h1.cells;have f1:=h1.free 1;have hgl1:=h1.lt;obtain⟨⟨y0,y1,y2⟩,g0,g1,g2⟩:=cF HB0.o;have hz1:=aD HB0.o;have H1:=aA h1;clear hb1 hs h1 c0 c2 c4 HH H;rw[hb] at c3;clear hb;go_wp2;refine bR (.agg #[.int .i64 2,.int .i64 t.num,.string t.str]) ?_;exact Uh
 .exact Ui
theorem Wj{L:List Tok}{p:PS}(hp:p.at_<L.length)(d:L.length<=5000)(g:Nat)(w:World)(h:PW L w g p)(a:(aU L p).aDN=3):
 Calls prog 263 #[.pointer (some ⟨g,0,none⟩)] w (eX L g w (dC (dA L p).1) (dA L p).2):=by
 have f:=h.lt;have H:=aA h;have HH:=aA (fun w h=>gO hp d g w h);have b:eW L p=((4,(aU L p).num,(aU L p).str),p):=by
  unfold eW;dsimp only;rw[iN qo];rw[iP a]
 rw[nX b];unfold eX;unfold iD at HH;generalize aU L p=t at *;clear h b;have d2:(t.aDN==2)=false:=bN.2 qo;have d3:(t.aDN==3)=true:=bQ.2 a;clear a;have i:(0:Int)<=p.at_:=qo;have i2:(p.at_:Int)<=5000:=qo;by_cases hb:p.bad=0
 .rw[iN (fun h=>h hb)];go_enter func263,ntmps263;go_wp2_with fail;refine(HH.o _ (H.o.on (aB w _))).mono ?_;rintro e w1 ⟨rfl,hb1⟩;have HB0:=aA (aE (heap_alloc_new w (.cells fW 30)) hb1);have HB1:=aA (aC (aB w (.cells fW 30)) hb1);have h1:=H.o.on HB1.o;obtain⟨A,c,c0,c1,c2,c3,c4,hs⟩:=h1.cells;have f1:=h1.free 1;have hgl1:=h1.lt;obtain⟨⟨y0,y1,y2⟩,g0,g1,g2⟩:=cF HB0.o;have hz1:=aD HB0.o;have H1:=aA h1;clear hb1 hs h1 c0 c2 c4 HH H;rw[hb] at c3;clear hb;go_wp2;refine bR (.agg #[.int .i64 4,.int .i64 t.num,.string t.str]) ?_;exact Uh
 .exact Ui
theorem Wk{L:List Tok}{p:PS}(hp:p.at_<L.length)(d:L.length<=5000)(g:Nat)(w:World)(h:PW L w g p)(a:(aU L p).aDN=4):
 Calls prog 263 #[.pointer (some ⟨g,0,none⟩)] w (eX L g w (dC (dA L p).1) (dA L p).2):=by
 have f:=h.lt;have H:=aA h;have HH:=aA (fun w h=>gO hp d g w h);have b:eW L p=((5,(aU L p).num,(aU L p).str),p):=by
  unfold eW;dsimp only;rw[iN qo];rw[iN qo];rw[iP a]
 rw[nX b];unfold eX;unfold iD at HH;generalize aU L p=t at *;clear h b;have d2:(t.aDN==2)=false:=bN.2 qo;have d3:(t.aDN==3)=false:=bN.2 qo;have d4:(t.aDN==4)=true:=bQ.2 a;clear a;have i:(0:Int)<=p.at_:=qo;have i2:(p.at_:Int)<=5000:=qo;by_cases hb:p.bad=0
 .rw[iN (fun h=>h hb)];go_enter func263,ntmps263;go_wp2_with fail;refine(HH.o _ (H.o.on (aB w _))).mono ?_;rintro e w1 ⟨rfl,hb1⟩;have HB0:=aA (aE (heap_alloc_new w (.cells fW 30)) hb1);have HB1:=aA (aC (aB w (.cells fW 30)) hb1);have h1:=H.o.on HB1.o;obtain⟨A,c,c0,c1,c2,c3,c4,hs⟩:=h1.cells;have f1:=h1.free 1;have hgl1:=h1.lt;obtain⟨⟨y0,y1,y2⟩,g0,g1,g2⟩:=cF HB0.o;have hz1:=aD HB0.o;have H1:=aA h1;clear hb1 hs h1 c0 c2 c4 HH H;rw[hb] at c3;clear hb;go_wp2;refine bR (.agg #[.int .i64 5,.int .i64 t.num,.string t.str]) ?_;exact Uh
 .exact Ui
theorem Wl{L:List Tok}{p:PS}(hp:p.at_<L.length)(d:L.length<=5000)(g:Nat)(w:World)(h:PW L w g p)(a:(aU L p).aDN=5):
 Calls prog 263 #[.pointer (some ⟨g,0,none⟩)] w (eX L g w (dC (dA L p).1) (dA L p).2):=by
 have f:=h.lt;have H:=aA h;have HH:=aA (fun w h=>gO hp d g w h);have b:eW L p=((3,(aU L p).num,(aU L p).str),p):=by
  unfold eW;dsimp only;rw[iN qo];rw[iN qo];rw[iN qo];rw[iP a]
 rw[nX b];unfold eX;unfold iD at HH;generalize aU L p=t at *;clear h b;have d2:(t.aDN==2)=false:=bN.2 qo;have d3:(t.aDN==3)=false:=bN.2 qo;have d4:(t.aDN==4)=false:=bN.2 qo;have d5:(t.aDN==5)=true:=bQ.2 a;clear a;have i:(0:Int)<=p.at_:=qo;have i2:(p.at_:Int)<=5000:=qo;by_cases hb:p.bad=0
 .rw[iN (fun h=>h hb)];go_enter func263,ntmps263;go_wp2_with fail;refine(HH.o _ (H.o.on (aB w _))).mono ?_;rintro e w1 ⟨rfl,hb1⟩;have HB0:=aA (aE (heap_alloc_new w (.cells fW 30)) hb1);have HB1:=aA (aC (aB w (.cells fW 30)) hb1);have h1:=H.o.on HB1.o;obtain⟨A,c,c0,c1,c2,c3,c4,hs⟩:=h1.cells;have f1:=h1.free 1;have hgl1:=h1.lt;obtain⟨⟨y0,y1,y2⟩,g0,g1,g2⟩:=cF HB0.o;have hz1:=aD HB0.o;have H1:=aA h1;clear hb1 hs h1 c0 c2 c4 HH H;rw[hb] at c3;clear hb;go_wp2;refine bR (.agg #[.int .i64 3,.int .i64 t.num,.string t.str]) ?_;exact Uh
 .exact Ui
theorem QBy{p:Prop}(h:p:=by
 refine⟨rfl,?_,?_⟩
 .exact(((((((H2.o.set qo).set qo).set qo).step (by go_num)).set qo).set qo).set qo)
 .exact cZ.end (((((((HK2.o.set qo).set qo).set qo).step).set qo).set qo).set qo)):p:=h
theorem NT(w:World)(A B:Obj):((w.alloc A).alloc B).heap[w.heap.size]? =some A/\((w.alloc A).alloc B).heap[w.heap.size+1]? =some B/\w.heap.size+1<((w.alloc A).alloc B).heap.size/\Below w.heap.size w ((w.alloc A).alloc B):=rR (Below.refl _ _)
theorem Wm{L:List Tok}{p:PS}(hp:p.at_<L.length)(f:L.length<=5000)(g:Nat)(w:World)(h:PW L w g p)(m:(aU L p).aDN≠2)(n:(aU L p).aDN≠3)(o:(aU L p).aDN≠4)(r:(aU L p).aDN≠5)(i:cM L (str "true") p=true):
 Calls prog 263 #[.pointer (some ⟨g,0,none⟩)] w (eX L g w (dC (dA L p).1) (dA L p).2):=by
 have G:=h.lt;have H:=aA h;have k:=aA (fun w h=>gO hp f g w h);have d:=aA (fun w h=>pA (str "true") hp f g w h);have y:=aA (fun w h=>pA (str "false") hp f g w h);have C:=aA (fun w h=>mC hp f g w h);have E:=aA (show (dL L p).bad≠0 from mA 5 _ qe p);have z:eW L p=((1,1,ByteArray.empty),p):=by
  unfold eW;dsimp only;rw[iN m,iN n,iN o,iN r,iP i]
 rw[nX z];have j:=aA (lS i).1;rw[i] at d;rw[iN (fun h=>h j.o)];clear i;unfold eX;unfold iD at k;rw[CU] at d;rw[yS] at y;have d2:((aU L p).aDN==2)=false:=bN.2 m;have d3:((aU L p).aDN==3)=false:=bN.2 n;have d4:((aU L p).aDN==4)=false:=bN.2 o;have d5:((aU L p).aDN==5)=false:=bN.2 r;generalize dL L p=q at *;generalize aU L p=t at *;clear h z m n o r;have N:(0:Int)<=p.at_:=qo;have i2:(p.at_:Int)<=5000:=qo;go_enter func263,ntmps263;go_wp2_with fail;refine(k.o _ (H.o.on (aB w _))).mono ?_;rintro e w1 ⟨rfl,l⟩;have v:=aA (aE (heap_alloc_new w (.cells fW 30)) l);have x:=aA (aC (aB w (.cells fW 30)) l);have K:=aD v.o;have H1:=aA (H.o.on x.o);have I:=H1.o.lt;clear l k H;have a:=aA (NT w1 (.cells (oO t) 130) (.cells #[.int .i64 0,.int .i64 t.num,.string t.str] 30));go_wp2_with fail;refine(d.o _ (H1.o.on a.o.2.2.2)).mono ?_;rintro e w2 ⟨rfl,b⟩;obtain⟨B,s,HK2,H2⟩:=dH (aE (aE (aE v.o (aB w1 _)) (aB _ _)) b) (aE a.o.2.1 b) (show cZ w.heap.size g w w2 from (aJ (aC (aC x.o a.o.2.2.2) b))) ((H1.o.on a.o.2.2.2).on b);obtain⟨A,c,c0,c1,c2,c3,c4,D⟩:=H2.o.cells;have f1:=H2.o.free 1;have J:=H2.o.lt;obtain⟨⟨R,S,T⟩,g0,g1,g2⟩:=cF B.o;obtain⟨⟨O,P,Q⟩,f0,F,f2⟩:=cF s.o;have M:=aD s.o;clear b D c0 c2 c4 d y C H1 a;rw[j.o] at c3;clear j;go_wp2;refine bR (.agg #[.int .i64 1,.int .i64 1,.string ⟨#[]⟩]) ?_;exact QBy
theorem Wn{L:List Tok}{p:PS}(hp:p.at_<L.length)(k:L.length<=5000)(g:Nat)(w:World)(h:PW L w g p)(v:(aU L p).aDN≠2)(x:(aU L p).aDN≠3)(y:(aU L p).aDN≠4)(z:(aU L p).aDN≠5)(s:cM L (str "true") p=false)(l:cM L (str "false") p=true):
 Calls prog 263 #[.pointer (some ⟨g,0,none⟩)] w (eX L g w (dC (dA L p).1) (dA L p).2):=by
 have J:=h.lt;have H:=aA h;have o:=aA (fun w h=>gO hp k g w h);have j:=aA (fun w h=>pA (str "true") hp k g w h);have i:=aA (fun w h=>pA (str "false") hp k g w h);have E:=aA (fun w h=>mC hp k g w h);have G:=aA (show (dL L p).bad≠0 from mA 5 _ qe p);have D:eW L p=((1,0,ByteArray.empty),p):=by
  unfold eW;dsimp only;rw[iN v,iN x,iN y,iN z,iN (by rw[s];decide),iP l]
 rw[nX D];have n:=aA (lS l).1;rw[l] at i;rw[s] at j;rw[iN (fun h=>h n.o)];clear l s;unfold eX;unfold iD at o;rw[CU] at j;rw[yS] at i;have d2:((aU L p).aDN==2)=false:=bN.2 v;have d3:((aU L p).aDN==3)=false:=bN.2 x;have d4:((aU L p).aDN==4)=false:=bN.2 y;have d5:((aU L p).aDN==5)=false:=bN.2 z;generalize dL L p=q at *;generalize aU L p=t at *;clear h D v x y z;have P:(0:Int)<=p.at_:=qo;have i2:(p.at_:Int)<=5000:=qo;go_enter func263,ntmps263;go_wp2_with fail;refine(o.o _ (H.o.on (aB w _))).mono ?_;rintro e w1 ⟨rfl,r⟩;have B:=aA (aE (heap_alloc_new w (.cells fW 30)) r);have C:=aA (aC (aB w (.cells fW 30)) r);have N:=aD B.o;have H1:=aA (H.o.on C.o);have K:=H1.o.lt;clear r o H;have a:=aA (NT w1 (.cells (oO t) 130) (.cells #[.int .i64 0,.int .i64 t.num,.string t.str] 30));go_wp2_with fail;refine(j.o _ (H1.o.on a.o.2.2.2)).mono ?_;rintro e w2 ⟨rfl,b⟩;obtain⟨m,f,HK2,H2⟩:=dH (aE (aE (aE B.o (aB w1 _)) (aB _ _)) b) (aE a.o.2.1 b) (show cZ w.heap.size g w w2 from (aJ (aC (aC C.o a.o.2.2.2) b))) ((H1.o.on a.o.2.2.2).on b);go_wp2_with fail;refine(i.o _ H2.o).mono ?_;rintro e Q ⟨rfl,d⟩;clear b j;obtain⟨m,f,HK2,H2⟩:=dH (aE m.o d) (aE f.o d) (HK2.o.new d) (H2.o.on d);obtain⟨A,c,c0,c1,c2,c3,c4,F⟩:=H2.o.cells;have f1:=H2.o.free 1;have M:=H2.o.lt;obtain⟨⟨U,V,W⟩,g0,g1,g2⟩:=cF m.o;obtain⟨⟨R,S,T⟩,f0,I,f2⟩:=cF f.o;have O:=aD f.o;clear d F c0 c2 c4 i E H1 a;rw[n.o] at c3;clear n;go_wp2;refine bR (.agg #[.int .i64 1,.int .i64 0,.string ⟨#[]⟩]) ?_;exact QBy
theorem Wo{L:List Tok}{p:PS}(hp:p.at_<L.length)(o:L.length<=5000)(g:Nat)(w:World)(h:PW L w g p)(z:(aU L p).aDN≠2)(B:(aU L p).aDN≠3)(b:(aU L p).aDN≠4)(C:(aU L p).aDN≠5)(y:cM L (str "true") p=false)(x:cM L (str "false") p=false):
 Calls prog 263 #[.pointer (some ⟨g,0,none⟩)] w (eX L g w (dC (dA L p).1) (dA L p).2):=by
 have M:=h.lt;have H:=aA h;have r:=aA (fun w h=>gO hp o g w h);have n:=aA (fun w h=>pA (str "true") hp o g w h);have m:=aA (fun w h=>pA (str "false") hp o g w h);have F:=aA (fun w h=>mC hp o g w h);have s:=aA (show (dL L p).bad≠0 from mA 5 _ qe p);have G:eW L p=((0,(aU L p).num,(aU L p).str),dL L p):=by
  unfold eW;dsimp only;rw[iN z,iN B,iN b,iN C,iN (by rw[y];decide),iN (by rw[x];decide)]
 rw[nX G];rw[x] at m;rw[y] at n;rw[iP s.o];clear x y;unfold eX;unfold iD at r;rw[CU] at n;rw[yS] at m;have d2:((aU L p).aDN==2)=false:=bN.2 z;have d3:((aU L p).aDN==3)=false:=bN.2 B;have d4:((aU L p).aDN==4)=false:=bN.2 b;have d5:((aU L p).aDN==5)=false:=bN.2 C;generalize dL L p=q at *;generalize aU L p=t at *;clear h G z B b C;have R:(0:Int)<=p.at_:=qo;have i2:(p.at_:Int)<=5000:=qo;go_enter func263,ntmps263;go_wp2_with fail;refine(r.o _ (H.o.on (aB w _))).mono ?_;rintro e w1 ⟨rfl,v⟩;have D:=aA (aE (heap_alloc_new w (.cells fW 30)) v);have E:=aA (aC (aB w (.cells fW 30)) v);have P:=aD D.o;have H1:=aA (H.o.on E.o);have N:=H1.o.lt;clear v r H;have j:=aA (NT w1 (.cells (oO t) 130) (.cells #[.int .i64 0,.int .i64 t.num,.string t.str] 30));go_wp2_with fail;refine(n.o _ (H1.o.on j.o.2.2.2)).mono ?_;rintro e w2 ⟨rfl,k⟩;obtain⟨f,d,i,a⟩:=dH (aE (aE (aE D.o (aB w1 _)) (aB _ _)) k) (aE j.o.2.1 k) (show cZ w.heap.size g w w2 from (aJ (aC (aC E.o j.o.2.2.2) k))) ((H1.o.on j.o.2.2.2).on k);go_wp2_with fail;refine(m.o _ a.o).mono ?_;rintro e S ⟨rfl,l⟩;clear k n;obtain⟨f,d,i,a⟩:=dH (aE f.o l) (aE d.o l) (i.o.new l) (a.o.on l);go_wp2_with fail;refine(F.o _ a.o).mono ?_;rintro e T ⟨rfl,h4,b⟩;clear l m F;obtain⟨f,d,i,a⟩:=dH (aF f.o b qo) (aF d.o b qo) (i.o.aD5 b) h4;obtain⟨A,c,c0,c1,c2,c3,c4,I⟩:=a.o.cells;have f1:=a.o.free 1;have O:=a.o.lt;obtain⟨⟨X,Y,Z⟩,g0,g1,g2⟩:=cF f.o;obtain⟨⟨U,V,W⟩,f0,K,f2⟩:=cF d.o;have Q:=aD d.o;have J:(q.bad != 0)=true:=bne_iff_ne.2 s.o;clear I c0 c1 c2 c4 H1 j s h4 b;go_wp2
 refine bR (.agg #[.int .i64 0,.int .i64 0,.string ⟨#[]⟩]) ?_;refine⟨rfl,?_,?_⟩
 .exact((a.o.set qo).set qo).set qo
 .exact cZ.end (((i.o.set qo).set qo).set qo)
theorem sI{L:List Tok}{p:PS}(T:Toks L)(hp:p.at_<L.length)(g:Nat)(w:World)(h:PW L w g p):
 Calls prog 263 #[.pointer (some ⟨g,0,none⟩)] w (eX L g w (dC (dA L p).1) (dA L p).2):=by
 have a:=T.len;by_cases b:(aU L p).aDN=2
 .exact Wi hp a g w h b
 by_cases c:(aU L p).aDN=3
 .exact Wj hp a g w h c
 by_cases d:(aU L p).aDN=4
 .exact Wk hp a g w h d
 by_cases e:(aU L p).aDN=5
 .exact Wl hp a g w h e
 cases f:cM L (str "true") p
 .cases i:cM L (str "false") p
  .exact Wo hp a g w h b c d e f i
  .exact Wn hp a g w h b c d e f i
 .exact Wm hp a g w h b c d e f
end Go.Proofs.YthcgdgkpgdjahaaGreatDoor
