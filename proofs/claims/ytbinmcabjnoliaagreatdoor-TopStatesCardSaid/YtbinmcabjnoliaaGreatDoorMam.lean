/- Lemmas. -/
import Derived.Test.YtbinmcabjnoliaaGreatDoorMal
namespace Go.Proofs.YtbinmcabjnoliaaGreatDoor
open Go.RowKit
set_option linter.unusedVariables false
set_option linter.unusedSimpArgs false
set_option maxHeartbeats 16000000
open _root_.Go.Proofs.Tryz
set_option maxRecDepth 20000
theorem QDb{p:Prop}(h:p:=by
 obtain⟨u,hu,hu2⟩:=cM.1 hb;injection hu with hu;subst hu;exact(hat b hu2).imp (own b) id):p:=h
theorem QCp{p:Prop}(h:p:=by
 obtain⟨u,hu,hu2⟩:=cM.1 hb;injection hu with hu;subst hu
 rcases hat b hu2 with h2|h2
 .exact hK b hKb h2.symm
 .have:=(h.kept b hKb).1;omega):p:=h
section
variable {K:nP} {base:Nat} {w w' w1:World} {s:Sto} {L:List Mix} {ro:Option Value} {vr vn vo vt vu vk vb:Value} {g n c k:Nat}
theorem bC.beside{vc:Value}(h:bC K base w s L ro vc vr vn vo vt vu vk vb)(d:k<L.length):(∀b,bP L[k].2.1=some b->∀j (hj:j<L.length),(j≠k->bP L[j].2.1≠some b)/\bP L[j].2.2≠some b)/\(∀b,bP L[k].2.2=some b->∀j (hj:j<L.length),(j≠k->bP L[j].2.2≠some b)/\bP L[j].2.1≠some b):=by
 have ha:=DB.1 h.apart;have ne:∀i j (f:i<L.length) (hj:j<L.length) b,bP L[i].2.1=some b->bP L[j].2.2=some b->False:=fun i j f hj b h1 h2=>by
  obtain⟨u,_,g,g1,_⟩:=h.aDz f h1;obtain⟨m,_,l,g2,_⟩:=h.aDA hj h2;exact dS g1 g2 qe g l.symm
 exact⟨fun b c j hj=>⟨fun e a=>(ha k j d hj (Ne.symm e)).1 b c a,fun a=>ne k j d hj b c a⟩,fun b c j hj=>⟨fun e a=>(ha k j d hj (Ne.symm e)).2 b c a,fun a=>ne j k hj d b a c⟩⟩
theorem tL{L:List Mix}{l:List cF}(h:L.map Prod.fst=l)(k:Nat)(x:Mix):(L.set k x).map Prod.fst=l.set k x.1:=by rw[List.map_set,h]
theorem bC.rest(h:bC K base w s L ro (.slice (some ⟨g,0,none⟩) n c) vr vn vo vt vu vk vb){q:nP}(f:aN q w w1)(k:∀b,K b->q b)(z:∀b,vr.ownBlock=some b->q b)(v:∀b,vn.ownBlock=some b->q b)(y:∀b,bP ro=some b->q b)
 {a:List Mix}{l':List cF}(m:a.map Prod.fst=l')(t:∀j (hj:j<a.length),a[j].2.2.isSome=true)(o:pK a)(r:∀j (hj:j<a.length),(∀b,bP a[j].2.1=some b->¬K b)/\(∀b,bP a[j].2.2=some b->¬K b)){i:Nat}{x:Value}
 (p:aM (dY base K) 5 46 (w1.setCell ⟨g,i,none⟩ x) base (fun b=>K b\/base<=b) (.slice (some ⟨g,0,none⟩) n c) a):bC K base (w1.setCell ⟨g,i,none⟩ x) {s with aCQ:=l'} a ro (.slice (some ⟨g,0,none⟩) n c) vr vn vo vt vu vk vb:={
 aCZ:=h.aCZ
 aC2:=h.aC2
 all:=m
 aDi:=t
 apart:=o
 aCQ:=p
 aCU:=aM.off cT (h.aCU.stays cT f z (fun _ h _=>h.elim)) (fun h=>h) (fun e=>dS h.aCU h.aCQ qe e rfl)
 aCY:=aM.off dZ (h.aCY.stays dZ f v (fun _ h _=>h.elim)) (fun h=>h) (fun e=>dS h.aCY h.aCQ qe e rfl)
 aC4:=(h.aC4.aDu dC f k y (fun _ h _=>h)).aDu (q:=fun b=>b≠g) dC (aI x) (fun b d e=>(h.kept b d).2.1 (by rw[e];rfl)) (fun b e l=>by
  obtain⟨u,h2,h3⟩:=h.rol e;exact dS h3 h.aCQ qe h2 (by rw[l];rfl)) (fun _ h _=>h)
 aCS:=(h.aCS.aC0 (f.mono fun b _ d=>k b d)).aC0 (fG (fun d=>(h.kept g d).2.1 rfl))
 kept:=fun b d=>⟨by rw[jK];exact lL (h.kept b d).1 f.size,(h.kept b d).2⟩
 aDl:=r
 aDt:=h.aDt
 size:=by rw[jK];exact lT h.size f.size}
theorem zW{L:List Mix}(h:∀j (hj:j<L.length),L[j].2.2.isSome=true){k:Nat}{x:Mix}(a:x.2.2.isSome=true):∀j (hj:j<(L.set k x).length),(L.set k x)[j].2.2.isSome=true:=by
 intro j hj;rw[List.length_set] at hj;rw[List.getElem_set];split
 .exact a
 .exact h j hj
theorem zZ{K:nP}{L:List Mix}(h:∀j (hj:j<L.length),(∀b,bP L[j].2.1=some b->¬K b)/\(∀b,bP L[j].2.2=some b->¬K b)){k:Nat}{x:Mix}(a:(∀b,bP x.2.1=some b->¬K b)/\(∀b,bP x.2.2=some b->¬K b)):∀j (hj:j<(L.set k x).length),(∀b,bP (L.set k x)[j].2.1=some b->¬K b)/\(∀b,bP (L.set k x)[j].2.2=some b->¬K b):=by
 intro j hj;rw[List.length_set] at hj;rw[List.getElem_set];split
 .exact a
 .exact h j hj
theorem bC.log(h:bC K base w s L ro (.slice (some ⟨g,0,none⟩) n c) vr vn vo vt vu vk vb)(a:k<L.length){v v':Value}(q:L[k].2.2=some v){d:List rS}(z:w.grownBy w1 v.ownBlock)(m:aM lE 3 52 w1 base (fun _=>False) v' d)(hat:∀b,v'.ownBlock=some b->v.ownBlock=some b\/w.heap.size<=b)(hlen:d.length<=1000000):
 bC K base (w1.setCell ⟨g,k * 5+4,none⟩ v') {s with aCQ:=s.aCQ.set k {L[k].1 with log:=d}} (L.set k ({L[k].1 with log:=d},L[k].2.1,some v')) ro (.slice (some ⟨g,0,none⟩) n c) vr vn vo vt vu vk vb:=by
 have l:=cW z;have f:=(kD h.aCQ a).2 v q;have H:g<w.heap.size:=(h.aCQ.lt g rfl).2;have own:∀b,v.ownBlock=some b->bP L[k].2.2=some b:=fun b hb=>cM.2 ⟨v,q,hb⟩
 have hK:∀b,K b->some b≠v.ownBlock:=fun b hb e=>(h.aDl k a).2 b (own b e.symm) hb
 have o:some g≠v.ownBlock:=fun e=>f.2.1 g e.symm rfl
 have B:∀b,v'.ownBlock=some b->b≠g:=fun b hb e=>by
  rcases hat b hb with h2|h2
  .exact o (by rw[h2,e])
  .omega
 have t:=MO (v:=v') (y:=({L[k].1 with log:=d},L[k].2.1,some v')) h.aCQ a (j:=4) qe l o hK
  (fun i p A=>⟨fun b hb e=>((h.beside a).2 b (own b e.symm) i p).2 hb,fun b hb e=>((h.beside a).2 b (own b e.symm) i p).1 A hb⟩)
  (by
    rintro r ⟨G,I,rfl,C,D,E,F,p5⟩;refine⟨G,v',rfl,C,D,E,?_,rfl,m,fun b hb=>⟨.inr (m.lt b hb).1,(m.lt b hb).2,B b hb⟩,hlen⟩;exact F.aDu bL l hK (fun b hb e=>((h.beside a).2 b (own b e.symm) k a).2 hb) (fun b hb _=>⟨hb.1,lL hb.2.1 l.size,hb.2.2⟩))
 refine h.rest l hK (fun b hb=>dS h.aCU f.1 qe hb) (fun b hb=>dS h.aCY f.1 qe hb) (fun b e=> ?_) (tL h.all k ({L[k].1 with log:=d},L[k].2.1,some v')) (zW (x:=({L[k].1 with log:=d},L[k].2.1,some v')) h.aDi rfl) (wZ (x:=({L[k].1 with log:=d},L[k].2.1,some v')) h.apart a h.lt (fun b hb=> .inl hb) (fun b hb=> ?_)) (zZ (x:=({L[k].1 with log:=d},L[k].2.1,some v')) h.aDl ⟨(h.aDl k a).1,fun b hb hKb=> ?_⟩) t
 .obtain⟨u,h2,h3⟩:=h.rol e;exact dS h3 f.1 qe h2
 .exact QDb
 .exact QCp
theorem bC.aCW(h:bC K base w s L ro (.slice (some ⟨g,0,none⟩) n c) vr vn vo vt vu vk vb)(a:k<L.length){v v':Value}(q:L[k].2.1=some v){d:List oH}(z:w.grownBy w1 v.ownBlock)(m:aM kM 4 57 w1 base (fun _=>False) v' d)(hat:∀b,v'.ownBlock=some b->v.ownBlock=some b\/w.heap.size<=b)(hlen:d.length<=1000000):
 bC K base (w1.setCell ⟨g,k * 5+3,none⟩ v') {s with aCQ:=s.aCQ.set k {L[k].1 with aCW:=d}} (L.set k ({L[k].1 with aCW:=d},some v',L[k].2.2)) ro (.slice (some ⟨g,0,none⟩) n c) vr vn vo vt vu vk vb:=by
 have l:=cW z;have f:=(kD h.aCQ a).1 v q;have G:g<w.heap.size:=(h.aCQ.lt g rfl).2;have own:∀b,v.ownBlock=some b->bP L[k].2.1=some b:=fun b hb=>cM.2 ⟨v,q,hb⟩
 have hK:∀b,K b->some b≠v.ownBlock:=fun b hb e=>(h.aDl k a).1 b (own b e.symm) hb
 have o:some g≠v.ownBlock:=fun e=>f.2.1 g e.symm rfl
 have B:∀b,v'.ownBlock=some b->b≠g:=fun b hb e=>by
  rcases hat b hb with h2|h2
  .exact o (by rw[h2,e])
  .omega
 have t:=MO (v:=v') (y:=({L[k].1 with aCW:=d},some v',L[k].2.2)) h.aCQ a (j:=3) qe l o hK
  (fun i p A=>⟨fun b hb e=>((h.beside a).1 b (own b e.symm) i p).1 A hb,fun b hb e=>((h.beside a).1 b (own b e.symm) i p).2 hb⟩)
  (by
    rintro r ⟨I,F,rfl,C,D,E,H,p5⟩;refine⟨v',F,rfl,C,D,E,⟨rfl,m,fun b hb=>⟨.inr (m.lt b hb).1,(m.lt b hb).2,B b hb⟩,hlen⟩,?_⟩;exact p5.aDu bS l hK (fun b hb e=>((h.beside a).1 b (own b e.symm) k a).2 hb) (fun b hb _=>⟨hb.1,lL hb.2.1 l.size,hb.2.2⟩))
 refine h.rest l hK (fun b hb=>dS h.aCU f.1 qe hb) (fun b hb=>dS h.aCY f.1 qe hb) (fun b e=> ?_) (tL h.all k ({L[k].1 with aCW:=d},some v',L[k].2.2)) (zW (x:=({L[k].1 with aCW:=d},some v',L[k].2.2)) h.aDi (h.aDi k a)) (wZ (x:=({L[k].1 with aCW:=d},some v',L[k].2.2)) h.apart a h.lt (fun b hb=> ?_) (fun b hb=> .inl hb)) (zZ (x:=({L[k].1 with aCW:=d},some v',L[k].2.2)) h.aDl ⟨fun b hb hKb=> ?_,(h.aDl k a).2⟩) t
 .obtain⟨u,h2,h3⟩:=h.rol e;exact dS h3 f.1 qe h2
 .exact QDb
 .exact QCp
theorem bC.aDa(h:bC K base w s L ro (.slice (some ⟨g,0,none⟩) n c) vr vn vo vt vu vk vb)(a:k<L.length){to_:bY}(i:to_.size<=cQ):
 bC K base (w.setCell ⟨g,k * 5+2,none⟩ (.string to_)) {s with aCQ:=s.aCQ.set k {L[k].1 with aDa:=to_}} (L.set k ({L[k].1 with aDa:=to_},L[k].2.1,L[k].2.2)) ro (.slice (some ⟨g,0,none⟩) n c) vr vn vo vt vu vk vb:=by
 have e:aN (fun _=>True) w w:=aN.refl _ w;have f:=MO (v:= .string to_) (y:=({L[k].1 with aDa:=to_},L[k].2.1,L[k].2.2)) h.aCQ a (j:=2) qe e trivial (fun _ _=>trivial) (fun _ _ _=>⟨fun _ _=>trivial,fun _ _=>trivial⟩)
  (by
    rintro r ⟨p,q,rfl,l,m,t,o,p5⟩;exact⟨p,q,rfl,l,m,i,o,p5⟩)
 exact h.rest e (fun _ _=>trivial) (fun _ _=>trivial) (fun _ _=>trivial) (fun _ _=>trivial) (tL h.all k ({L[k].1 with aDa:=to_},L[k].2.1,L[k].2.2)) (zW h.aDi (x:=({L[k].1 with aDa:=to_},L[k].2.1,L[k].2.2)) (h.aDi k a)) (wZ (x:=({L[k].1 with aDa:=to_},L[k].2.1,L[k].2.2)) h.apart a h.lt (fun b d=> .inl d) (fun b d=> .inl d)) (zZ h.aDl (x:=({L[k].1 with aDa:=to_},L[k].2.1,L[k].2.2)) (h.aDl k a)) f
end
section
variable {K:nP} {base:Nat} {w w' w1:World} {s:Sto} {L:List Mix} {ro:Option Value} {vc vr vn vo vt vu vk vb:Value} {g n c k:Nat}
theorem bC.aDc(h:bC K base w s L ro vc vr vn vo vt vu vk vb)(c:k<L.length){v:Value}(g:L[k].2.1=some v){f:List oH}(d:aN (fun b=>some b≠v.ownBlock) w w')(q:aM kM 4 57 w' base (fun _=>False) v f)(hlen:f.length=L[k].1.aCW.length):
 bC K base w' {s with aCQ:=s.aCQ.set k {L[k].1 with aCW:=f}} (L.set k ({L[k].1 with aCW:=f},some v,L[k].2.2)) ro vc vr vn vo vt vu vk vb:=by
 have l:=(kD h.aCQ c).1 v g;have own:∀b,v.ownBlock=some b->bP L[k].2.1=some b:=fun b a=>cM.2 ⟨v,g,a⟩
 have j:∀b,K b->some b≠v.ownBlock:=fun b a e=>(h.aDl k c).1 b (own b e.symm) a
 have t:=Nu h.aCQ d (fun b a=>dS h.aCQ l.1 qe a) c (y:=({L[k].1 with aCW:=f},some v,L[k].2.2)) j
  (fun i n z=>⟨fun b a e=>((h.beside c).1 b (own b e.symm) i n).1 z a,fun b a e=>((h.beside c).1 b (own b e.symm) i n).2 a⟩)
  (by
    rintro r ⟨E,F,rfl,A,B,C,o,p5⟩;rw[g] at o;obtain⟨p,q1,m,D⟩:=o;subst p;refine⟨E,F,rfl,A,B,C,⟨rfl,q,fun b a=>⟨(m b a).1,lL (m b a).2.1 d.size,(m b a).2.2⟩,by rw[hlen];exact D⟩,?_⟩;exact p5.aDu bS d j (fun b a e=>((h.beside c).1 b (own b e.symm) k c).2 a) (fun b a _=>⟨a.1,lL a.2.1 d.size,a.2.2⟩))
 exact {aDt:=h.aDt,aCZ:=h.aCZ,aC2:=h.aC2,all:=tL h.all k ({L[k].1 with aCW:=f},some v,L[k].2.2),aDi:=zW (x:=({L[k].1 with aCW:=f},some v,L[k].2.2)) h.aDi (h.aDi k c),apart:=wZ (x:=({L[k].1 with aCW:=f},some v,L[k].2.2)) h.apart c h.lt (fun b a=> .inl (by rw[g];exact a)) (fun b a=> .inl a),aCQ:=t,aCU:=h.aCU.stays cT d (fun b a=>dS h.aCU l.1 qe a) (fun _ h _=>h.elim),aCY:=h.aCY.stays dZ d (fun b a=>dS h.aCY l.1 qe a) (fun _ h _=>h.elim),aC4:=h.aC4.aDu dC d j (fun b e=>by obtain⟨u,h2,h3⟩:=h.rol e;exact dS h3 l.1 qe h2) (fun _ h _=>h),aCS:=h.aCS.aC0 (d.mono fun b _ a=>j b a),kept:=fun b a=>⟨lL (h.kept b a).1 d.size,(h.kept b a).2⟩,aDl:=zZ (x:=({L[k].1 with aCW:=f},some v,L[k].2.2)) h.aDl ⟨fun b a=>(h.aDl k c).1 b (by rw[g];exact a),(h.aDl k c).2⟩,size:=lT h.size d.size}
theorem bC.close(h:bC K base w s L ro vc (.slice (some ⟨g,0,none⟩) n c) vn vo vt vu vk vb)(m:k<s.aCU.length){b:Bool}:
 bC K base (w.setCell ⟨g,k * 7+6,none⟩ (.bool b)) {s with aCU:=s.aCU.set k {s.aCU[k] with open_:=b}} L ro vc (.slice (some ⟨g,0,none⟩) n c) vn vo vt vu vk vb:=by
 have a:=aM.setAt cT (j:=6) (x:= .bool b) (y:={s.aCU[k] with open_:=b}) h.aCU m qe (by rintro r ⟨rfl,p⟩;exact⟨rfl,p⟩);have f:w.grownBy (w.setCell ⟨g,k * 7+6,none⟩ (.bool b)) (some g):=by
  have h1:=aI (w:=w) (g:=g) (i:=k * 7+6) (.bool b);exact⟨h1.os,h1.tape,h1.output,h1.size,fun i l o=>h1.block i l (fun e=>o (by rw[e]))⟩
 exact h.aDd f a (fun b d=> .inl d)
theorem bC.insert(h:bC K base w s L ro vc vr vn vo vt vu vk vb)(E:k<=L.length){xs cs:List Value}(J:w.ownsRow base 46 5 vc L.length xs/\aX (dY base K w (fun b=>(K b\/base<=b)/\b<w.heap.size/\some b≠vc.ownBlock)) xs L)
 {x:Mix}(I:dY base K w (fun b=>(K b\/base<=b)/\b<w.heap.size/\some b≠vc.ownBlock) cs x)(H:x.2.2.isSome=true){m:Nat}(hm:∀j (hj:j<L.length),(∀b,bP L[j].2.1=some b->b<m)/\(∀b,bP L[j].2.2=some b->b<m))(h1:∀b,bP x.2.1=some b->m<=b)(h2:∀b,bP x.2.2=some b->m<=b)(p:∀b,K b->m<=b->bP x.2.1≠some b/\bP x.2.2≠some b)
 {A:oD}{f:Nat}(G:w'.ownsRow base 46 5 (.slice A (L.length+1) f) (L.length+1) (xs.take (k * 5)++cs++xs.drop (k * 5)))(D:w.grownBy w' vc.ownBlock)(q:∀b,(Value.slice A (L.length+1) f).ownBlock=some b->vc.ownBlock=some b\/w.heap.size<=b)
 (t:∀b,bP x.2.1=some b\/bP x.2.2=some b->some b≠vc.ownBlock):
 bC K base w' {s with aCQ:=s.aCQ.take k++[x.1]++s.aCQ.drop k} (L.take k++[x]++L.drop k) ro (.slice A (L.length+1) f) vr vn vo vt vu vk vb:=by
 have d:=cW D;have l:∀b,K b->some b≠vc.ownBlock:=fun b a=>(h.kept b a).2.1
 have y:(L.take k++[x]++L.drop k).length=L.length+1:=by simp only[aL,List.length_take,List.length_drop,List.length_cons,List.length_nil];omega
 have F:∀b,(K b\/base<=b)/\b<w.heap.size/\some b≠vc.ownBlock->b<w.heap.size->(K b\/base<=b)/\b<w'.heap.size/\some b≠(Value.slice A (L.length+1) f).ownBlock:=fun b a _=>⟨a.1,lL a.2.1 d.size,fun e=>by
  rcases q b e.symm with h3|h3
  .exact a.2.2 h3.symm
  .have:=a.2.1;omega⟩
 have C:∀r z,(z=x\/∃j,∃hj:j<L.length,z=L[j])->dY base K w (fun b=>(K b\/base<=b)/\b<w.heap.size/\some b≠vc.ownBlock) r z->dY base K w' (fun b=>(K b\/base<=b)/\b<w'.heap.size/\some b≠(Value.slice A (L.length+1) f).ownBlock) r z:=fun r z v g=>by
  refine zU g d l (fun b a=> ?_) (fun b a=> ?_) F
  .rcases v with rfl|⟨j,hj,rfl⟩
   .exact t b (.inl a)
   .obtain⟨u,_,_,_,h5⟩:=h.aDz hj a;exact h5
  .rcases v with rfl|⟨j,hj,rfl⟩
   .exact t b (.inr a)
   .obtain⟨u,_,_,_,h5⟩:=h.aDA hj a;exact h5
 have B:aX (dY base K w (fun b=>(K b\/base<=b)/\b<w.heap.size/\some b≠vc.ownBlock)) (xs.take (k * 5)++cs++xs.drop (k * 5)) (L.take k++[x]++L.drop k):=by
  have h3:=J.2.split (fun r x g=>(dO base K).len g) k E;exact(h3.1.append (aX.one I)).append h3.2
 have o:∀i (c:i<(L.take k++[x]++L.drop k).length),(L.take k++[x]++L.drop k)[i]=x\/∃j,∃hj:j<L.length,(L.take k++[x]++L.drop k)[i]=L[j]:=fun i c=>by
  have h3:=List.getElem_mem c
  rcases List.mem_append.1 h3 with h4|h4
  .rcases List.mem_append.1 h4 with h5|h5
   .obtain⟨j,hj,e⟩:=List.getElem_of_mem (List.mem_of_mem_take h5);exact .inr ⟨j,hj,e.symm⟩
   .exact .inl (by simpa using h5)
  .obtain⟨j,hj,e⟩:=List.getElem_of_mem (List.mem_of_mem_drop h4);exact .inr ⟨j,hj,e.symm⟩
 refine {aDt:=h.aDt,aCZ:=h.aCZ,aC2:=h.aC2,all:= ?_,aDi:=fun j hj=> ?_,apart:=Hm h.apart hm h1 h2,aCQ:=⟨_,by rw[y];exact G,aX.aDx (fun i c r g=>C r _ (o i c) g) B⟩,aCU:=h.aCU.stays cT d (fun b a=>dS h.aCU h.aCQ qe a) (fun _ h _=>h.elim),aCY:=h.aCY.stays dZ d (fun b a=>dS h.aCY h.aCQ qe a) (fun _ h _=>h.elim),aC4:=h.aC4.aDu dC d l (fun b e=>by obtain⟨u,h2,h3⟩:=h.rol e;exact dS h3 h.aCQ qe h2) (fun _ h _=>h),aCS:=h.aCS.aC0 (d.mono fun b _ a=>l b a),kept:=fun b a=>⟨lL (h.kept b a).1 d.size,fun e=> ?_,(h.kept b a).2.2⟩,aDl:=fun j hj=> ?_,size:=lT h.size d.size}
 .rw[List.map_append,List.map_append,List.map_take,List.map_drop,h.all];rfl
 .rcases o j hj with e|⟨i,c,e⟩
  .rw[e];exact H
  .rw[e];exact h.aDi i c
 .rcases q b e.symm with h3|h3
  .exact l b a h3.symm
  .have:=(h.kept b a).1;omega
 .rcases o j hj with e|⟨i,c,e⟩
  .rw[e];exact⟨fun b a n=>(p b n (h1 b a)).1 a,fun b a n=>(p b n (h2 b a)).2 a⟩
  .rw[e];exact h.aDl i c
end
def AB(o:Option cF)(w:World)(e:Ending)(w':World):Prop:=(o=none/\e=.returned (.tuple #[.agg #[.string ⟨#[]⟩,.string ⟨#[]⟩,.string ⟨#[]⟩,.slice none 0 0,.slice none 0 0],.bool false])/\Below w.heap.size w w')\/(∃c a b,o=some c/\e=.returned (.tuple #[.agg #[.string c.id,.string c.aDj,.string c.aDa,a,b],.bool true])/\TP c w a b w')
theorem xA{ok:nP}(s:Sto)(vc vr vn vo vt vu vk vb:Value)(N:bY)(w:World)(h:eZ w ok s vc vr vn vo vt vu vk vb):Calls prog 8 #[.agg (aV s vc vr vn vo vt vu vk vb),.string N] w (AB (eF s N) w):=by
 obtain⟨Y,Z,ra,rc,na,nc,oa,oc,ta,tc,ua,uc,ka,kc,W,X,rfl,_,rfl,_,rfl,_,rfl,_,rfl,_,rfl,_,rfl,_,rfl,_⟩:=h.sl;obtain⟨W0,g⟩:=xE ((w.alloc (.cells (fT s Y Z ra rc na nc oa oc ta tc ua uc ka kc W X) 40)).alloc (.cells #[.string ⟨#[]⟩,.string ⟨#[]⟩,.string ⟨#[]⟩,.slice none 0 0,.slice none 0 0] 46));have j:Hid (Below w.heap.size w W0):=aA (by rw[g];exact aC (aB _ _) (aB _ _));have A:Hid (W0.heap[w.heap.size]? =some (.cells (fT s Y Z ra rc na nc oa oc ta tc ua uc ka kc W X) 40 (0,0))):=aA (by rw[g];exact aE (aK _ _ _ rfl) (aB _ _));have R:Hid (W0.heap[w.heap.size+1]? =some (.cells #[.string ⟨#[]⟩,.string ⟨#[]⟩,.string ⟨#[]⟩,.slice none 0 0,.slice none 0 0] 46 (0,0))):=aA (by rw[g];exact aK _ _ _ qs);obtain⟨ag,n,O,m⟩:=dG g (IW s _ _ _ _ _ _ _ _ N W0 (h.on j.o)) (aH.on dM h.aCQ j.o) (EU s N);obtain⟨⟨i,b⟩,hF⟩:∃F,aW s N=F:=⟨_,rfl⟩;rw[hF] at m n;unfold aO at n;unfold aV at *;have ao:=aA j.o;obtain⟨⟨a0,a1,a2,a3,a4,a5,a6,a7,a8,a9,ah,ai,a12⟩,_⟩:=bT A.o;have za:=aD A.o;clear h g hF;go_enter func8,ntmps8;go_wp2_with fail;rw[<-ag.o];refine n.o.mono ?_;rintro e w1 ⟨rfl,a⟩;have l:=qB j a;have ad:=aA (O.o.on dM a);clear a0 a1 a2 a3 a4 a5 a6 a7 a8 a9 ah ai a12 za;replace A:=qK A a;obtain⟨⟨y,z,E,G,H,I,J,K,L,M,B,C,D⟩,_⟩:=bT A.o;have zA:=aD A.o;replace R:=qK R a;obtain⟨⟨Q,S,T,U,V⟩,_⟩:=cP R.o;have x:=aD R.o;clear a n O
 rcases m.o with ⟨d,f⟩|⟨k,hk,d,f⟩
 .replace f:b=false:=f;subst f;have q:=aA d;clear m d;have f0:=aR R.o 0;have f1:=aR R.o 1;have f2:=aR R.o 2;have f3:=aR R.o 3;have f4:=aR R.o 4;go_wp2;refine bR (.tuple #[.agg #[.string ⟨#[]⟩,.string ⟨#[]⟩,.string ⟨#[]⟩,.slice none 0 0,.slice none 0 0],.bool false]) ?_;exact .inl ⟨q.o,rfl,ZR l.o (Nat.le_succ _)⟩
 .injection d with d e3;subst d e3;obtain⟨b,off,r,rfl,_,aq,⟨vf,vl,rfl,o⟩,aa⟩:=aH.at dM ad.o hk qe;obtain⟨fa,fc,rfl,_⟩:=o.2.2.2.1.slice;obtain⟨la,lc,rfl,_⟩:=o.2.2.2.2.slice;obtain⟨x0,x1,x2,x3,x4⟩:=FQ aa;rw[Nat.add_zero] at x0;have ar:(i:Int)<(s.aCQ.length:Int):=qo;have q:=aA f;clear m aa f;generalize s.aCQ[i]=c at *;have p:=aA (FV c _ _ w1 o);unfold xU TP at p;clear o;go_wp2_with fail;refine p.o.mono ?_;rintro e w2 ⟨au,av,rfl,t,v,a⟩;obtain⟨aj,ak,rfl⟩:=t.slice;obtain⟨al,an,rfl⟩:=v.slice;have P:Hid (w.heap.size+1<w1.heap.size):=aA x;obtain⟨ae,af,ab⟩:=aY t v (aC l.o a)
  try clear y z E G H I J K L M B C D zA
  replace A:=qK A a;obtain⟨⟨y,z,E,G,H,I,J,K,L,M,B,C,D⟩,_⟩:=bT A.o;have zA:=aD A.o
  try clear Q S T U V x
  replace R:=qK R a;obtain⟨⟨Q,S,T,U,V⟩,_⟩:=cP R.o;have x:=aD R.o;have f0:=aR R.o 0;have f1:=aR R.o 1;have f2:=aR R.o 2;have f3:=aR R.o 3;have f4:=aR R.o 4;clear p t v a x0 x1 x2 x3 x4;go_wp2;refine bR (.tuple #[.agg #[.string c.id,.string c.aDj,.string c.aDa,.slice aj c.aCW.length ak,.slice al c.log.length an],.bool true]) ?_;refine .inr ⟨c,_,_,q.o,rfl,aM.less ?_ l.o.size,aM.less ?_ l.o.size,ZR ab.o (Nat.le_succ _)⟩
  .repeat (refine aM.aDR bL ?_ P.o zT)
   exact ae.o
  .repeat (refine aM.aDR bS ?_ P.o zT)
   exact af.o
theorem vY{L:List Tok}{p:PS}(T:Toks L)(hp:p.at_<L.length)(g:Nat)(w:World)(h:PW L w g p):
 Calls prog 264 #[.pointer (some ⟨g,0,none⟩)] w (eS L g w (oF (cD L p).1) (cD L p).2):=by
 have P:=h.lt;have H:=aA h;have h1:=dQ T [str "subject",str "action",str "case",str "env"] hp;have h2:=fZ T (str ".") h1.lt;have h3:=jD T h2.lt;have n:=aA (fun a c w h hw=>nB T [str "subject",str "action",str "case",str "env"] a c 4 rfl qe hp g w h hw);have o:=aA (fun w h=>mE T (str ".") h1.lt g w h);have D:=aA (fun w h=>rB T h2.lt g w h);have q:=aA (fun w h=>eM T (str "!") h3.lt g w h);unfold eS cD;dsimp only;clear h h1 h2 h3;generalize aZ L [str "subject",str "action",str "case",str "env"] p=m at *;generalize eH L (str ".") m.2=I at *;generalize bU L I=s at *;generalize kJ L (str "!") s.2=J at *;rw[Gp,Nf,Xc,Zq] at n;rw[Zp] at o;rw[Xb] at q;go_enter func264,ntmps264;go_wp2_with fail;obtain⟨b0,b1,Q,r⟩:=rD (w:=w) (aB ((w.alloc (.cells #[.int .i64 0,.string ⟨#[]⟩,.bool false] 279)).alloc (.cells #[.int .i64 0,.string ⟨#[]⟩,.bool false] 279)) (.cells #[.string ⟨#[115,117,98,106,101,99,116]⟩,.string ⟨#[97,99,116,105,111,110]⟩,.string ⟨#[99,97,115,101]⟩,.string ⟨#[101,110,118]⟩] 9));have z:Hid (cX w.heap.size g w _):=aA (aJ r);refine(n.o _ _ _ (H.o.on r) (nC _ _ _ _ _ qs rfl)).mono ?_;rintro e w1 ⟨rfl,h1,i⟩;have A:=aA (z.o.aC8 i);have b0:=aF b0 i qo;have b1:=aF b1 i qo;obtain⟨⟨t,v,x⟩,f0,f1,f2⟩:=cE b1;obtain⟨f,d,H1⟩:=aY b0 b1 h1;clear n z H r i h1 b0 b1;go_wp2_with fail;refine(o.o _ (H1.o.set qo)).mono ?_;rintro e w2 ⟨rfl,h2,j⟩;obtain⟨B,f,d,E⟩:=dG ((A.o.set (b:=w.heap.size+1) qo).aC8 j) (aF (bE f.o qo) j qo) (aF (aG d.o 0 _) j qo:w2.heap[w.heap.size+1]? =some (.cells #[.int .i64 m.1,.string ⟨#[]⟩,.bool false] 279 (0,0))) (D.o _ h2)
 clear o A H1 h2 j D t v x f0 f1 f2;go_wp2_with fail;refine(E.o).mono ?_;rintro e S ⟨rfl,h3,k⟩;obtain⟨C,f,d⟩:=aY (B.o.aC8 k) (aF f.o k qo) (aF d.o k qo);obtain⟨⟨t,v,x⟩,f0,f1,f2⟩:=cE d.o;have y:=aA h3;clear E B h3 k;go_wp2_with fail;refine(q.o _ (y.o.set qo)).mono ?_;rintro e K ⟨rfl,h4,l⟩;obtain⟨G,f,d⟩:=aY ((C.o.set (b:=w.heap.size+1) qo).aC8 l) (aF (bE f.o qo) l qo) (aF (aG d.o 1 _) l qo:K.heap[w.heap.size+1]? =some (.cells #[.int .i64 m.1,.string s.1,.bool false] 279 (0,0)));obtain⟨⟨U,V,W⟩,g0,g1,g2⟩:=cE d.o;obtain⟨⟨z0,X,z2⟩,M,N,O⟩:=cE f.o;have R:=aD d.o;have F:=aA h4;clear q C y h4 l t v x f0 f1 f2;go_wp2;refine bR (.agg #[.int .i64 m.1,.string s.1,.bool J.1]) ?_;refine⟨rfl,?_,?_⟩
 .exact(((F.o.set qo).set qo).set qo).set qo
 .exact cX.end ((((G.o.set qo).set qo).set qo).set qo)
theorem Sd{p:Prop}(h:p:=by
 refine⟨rfl,?_,?_⟩
 .exact(((((H1.o.step (by go_num)).set qo).set qo).set qo).alloc).alloc
 .exact cX.end ((((((cX.step (aJ HB1.o)).set qo).set qo).set qo).alloc).alloc)):p:=h
theorem Se{p:Prop}(h:p:=by
 rw[iP hb];have db:(p.bad != 0)=true:=bne_iff_ne.2 hb;clear hb;go_enter func265,ntmps265;go_wp2_with fail;refine(HH.o _ (H.o.on (aB w _))).mono ?_;rintro e w1 ⟨rfl,hb1⟩;have HB0:=aA (aE (heap_alloc_new w (.cells fV 55)) hb1);have HB1:=aA (aC (aB w (.cells fV 55)) hb1);have h1:=H.o.on HB1.o;obtain⟨A,c,c0,c1,c2,c3,c4,hs⟩:=h1.cells;have f1:=h1.free 1;have hgl1:=h1.lt;obtain⟨⟨y0,y1,y2⟩,g0,g1,g2⟩:=cE HB0.o;have hz1:=aD HB0.o;have H1:=aA h1;clear hb1 hs h1 c0 c2 c4 HH H;go_wp2;refine bR (.agg #[.int .i64 0,.int .i64 0,.string ⟨#[]⟩]) ?_;refine⟨rfl,?_,?_⟩
 .exact((((H1.o.set qo).set qo).set qo).alloc).alloc
 .exact cX.end (((((cX.set (aJ HB1.o) qo).set qo).set qo).alloc).alloc)):p:=h
theorem nL{L:List Tok}{p:PS}{v:V3}{q:PS}(h:eR L p=(v,q)):dA L p=if q.bad≠0 then (bD,q) else (v,{q with at_:=q.at_+1}):=by rw[zI,h]
theorem Uh{L:List Tok}{p:PS}(hp:p.at_<L.length)(d:L.length<=5000)(g:Nat)(w:World)(h:PW L w g p)(a:(aU L p).aCR=2):
 Calls prog 265 #[.pointer (some ⟨g,0,none⟩)] w (eS L g w (dD (dA L p).1) (dA L p).2):=by
 have f:=h.lt;have H:=aA h;have HH:=aA (fun w h=>gH hp d g w h);have b:eR L p=((2,(aU L p).num,(aU L p).str),p):=by
  unfold eR;dsimp only;rw[iP a]
 rw[nL b];unfold eS;unfold iA at HH;generalize aU L p=t at *;clear h b;have d2:(t.aCR==2)=true:=bQ.2 a;clear a;have i:(0:Int)<=p.at_:=qo;have i2:(p.at_:Int)<=5000:=qo;by_cases hb:p.bad=0
 .rw[iN (fun h=>h hb)];go_enter func265,ntmps265;go_wp2_with fail;refine(HH.o _ (H.o.on (aB w _))).mono ?_;rintro e w1 ⟨rfl,hb1⟩;have HB0:=aA (aE (heap_alloc_new w (.cells fV 55)) hb1);have HB1:=aA (aC (aB w (.cells fV 55)) hb1);have h1:=H.o.on HB1.o;obtain⟨A,c,c0,c1,c2,c3,c4,hs⟩:=h1.cells;have f1:=h1.free 1;have hgl1:=h1.lt;obtain⟨⟨y0,y1,y2⟩,g0,g1,g2⟩:=cE HB0.o;have hz1:=aD HB0.o;have H1:=aA h1;clear hb1 hs h1 c0 c2 c4 HH H;rw[hb] at c3;clear hb;go_wp2;refine bR (.agg #[.int .i64 2,.int .i64 t.num,.string t.str]) ?_;exact Sd
 .exact Se
theorem Ui{L:List Tok}{p:PS}(hp:p.at_<L.length)(d:L.length<=5000)(g:Nat)(w:World)(h:PW L w g p)(a:(aU L p).aCR=3):
 Calls prog 265 #[.pointer (some ⟨g,0,none⟩)] w (eS L g w (dD (dA L p).1) (dA L p).2):=by
 have f:=h.lt;have H:=aA h;have HH:=aA (fun w h=>gH hp d g w h);have b:eR L p=((4,(aU L p).num,(aU L p).str),p):=by
  unfold eR;dsimp only;rw[iN qo];rw[iP a]
 rw[nL b];unfold eS;unfold iA at HH;generalize aU L p=t at *;clear h b;have d2:(t.aCR==2)=false:=bN.2 qo;have d3:(t.aCR==3)=true:=bQ.2 a;clear a;have i:(0:Int)<=p.at_:=qo;have i2:(p.at_:Int)<=5000:=qo;by_cases hb:p.bad=0
 .rw[iN (fun h=>h hb)];go_enter func265,ntmps265;go_wp2_with fail;refine(HH.o _ (H.o.on (aB w _))).mono ?_;rintro e w1 ⟨rfl,hb1⟩;have HB0:=aA (aE (heap_alloc_new w (.cells fV 55)) hb1);have HB1:=aA (aC (aB w (.cells fV 55)) hb1);have h1:=H.o.on HB1.o;obtain⟨A,c,c0,c1,c2,c3,c4,hs⟩:=h1.cells;have f1:=h1.free 1;have hgl1:=h1.lt;obtain⟨⟨y0,y1,y2⟩,g0,g1,g2⟩:=cE HB0.o;have hz1:=aD HB0.o;have H1:=aA h1;clear hb1 hs h1 c0 c2 c4 HH H;rw[hb] at c3;clear hb;go_wp2;refine bR (.agg #[.int .i64 4,.int .i64 t.num,.string t.str]) ?_;exact Sd
 .exact Se
theorem Uj{L:List Tok}{p:PS}(hp:p.at_<L.length)(d:L.length<=5000)(g:Nat)(w:World)(h:PW L w g p)(a:(aU L p).aCR=4):
 Calls prog 265 #[.pointer (some ⟨g,0,none⟩)] w (eS L g w (dD (dA L p).1) (dA L p).2):=by
 have f:=h.lt;have H:=aA h;have HH:=aA (fun w h=>gH hp d g w h);have b:eR L p=((5,(aU L p).num,(aU L p).str),p):=by
  unfold eR;dsimp only;rw[iN qo];rw[iN qo];rw[iP a]
 rw[nL b];unfold eS;unfold iA at HH;generalize aU L p=t at *;clear h b;have d2:(t.aCR==2)=false:=bN.2 qo;have d3:(t.aCR==3)=false:=bN.2 qo;have d4:(t.aCR==4)=true:=bQ.2 a;clear a;have i:(0:Int)<=p.at_:=qo;have i2:(p.at_:Int)<=5000:=qo;by_cases hb:p.bad=0
 .rw[iN (fun h=>h hb)];go_enter func265,ntmps265;go_wp2_with fail;refine(HH.o _ (H.o.on (aB w _))).mono ?_;rintro e w1 ⟨rfl,hb1⟩;have HB0:=aA (aE (heap_alloc_new w (.cells fV 55)) hb1);have HB1:=aA (aC (aB w (.cells fV 55)) hb1);have h1:=H.o.on HB1.o;obtain⟨A,c,c0,c1,c2,c3,c4,hs⟩:=h1.cells;have f1:=h1.free 1;have hgl1:=h1.lt;obtain⟨⟨y0,y1,y2⟩,g0,g1,g2⟩:=cE HB0.o;have hz1:=aD HB0.o;have H1:=aA h1;clear hb1 hs h1 c0 c2 c4 HH H;rw[hb] at c3;clear hb;go_wp2;refine bR (.agg #[.int .i64 5,.int .i64 t.num,.string t.str]) ?_;exact Sd
 .exact Se
theorem Uk{L:List Tok}{p:PS}(hp:p.at_<L.length)(d:L.length<=5000)(g:Nat)(w:World)(h:PW L w g p)(a:(aU L p).aCR=5):
 Calls prog 265 #[.pointer (some ⟨g,0,none⟩)] w (eS L g w (dD (dA L p).1) (dA L p).2):=by
 have f:=h.lt;have H:=aA h;have HH:=aA (fun w h=>gH hp d g w h);have b:eR L p=((3,(aU L p).num,(aU L p).str),p):=by
  unfold eR;dsimp only;rw[iN qo];rw[iN qo];rw[iN qo];rw[iP a]
 rw[nL b];unfold eS;unfold iA at HH;generalize aU L p=t at *;clear h b;have d2:(t.aCR==2)=false:=bN.2 qo;have d3:(t.aCR==3)=false:=bN.2 qo;have d4:(t.aCR==4)=false:=bN.2 qo;have d5:(t.aCR==5)=true:=bQ.2 a;clear a;have i:(0:Int)<=p.at_:=qo;have i2:(p.at_:Int)<=5000:=qo;by_cases hb:p.bad=0
 .rw[iN (fun h=>h hb)];go_enter func265,ntmps265;go_wp2_with fail;refine(HH.o _ (H.o.on (aB w _))).mono ?_;rintro e w1 ⟨rfl,hb1⟩;have HB0:=aA (aE (heap_alloc_new w (.cells fV 55)) hb1);have HB1:=aA (aC (aB w (.cells fV 55)) hb1);have h1:=H.o.on HB1.o;obtain⟨A,c,c0,c1,c2,c3,c4,hs⟩:=h1.cells;have f1:=h1.free 1;have hgl1:=h1.lt;obtain⟨⟨y0,y1,y2⟩,g0,g1,g2⟩:=cE HB0.o;have hz1:=aD HB0.o;have H1:=aA h1;clear hb1 hs h1 c0 c2 c4 HH H;rw[hb] at c3;clear hb;go_wp2;refine bR (.agg #[.int .i64 3,.int .i64 t.num,.string t.str]) ?_;exact Sd
 .exact Se
theorem QBy{p:Prop}(h:p:=by
 refine⟨rfl,?_,?_⟩
 .exact(((((((H2.o.set qo).set qo).set qo).step (by go_num)).set qo).set qo).set qo)
 .exact cX.end (((((((HK2.o.set qo).set qo).set qo).step).set qo).set qo).set qo)):p:=h
theorem MP(w:World)(A B:Obj):((w.alloc A).alloc B).heap[w.heap.size]? =some A/\((w.alloc A).alloc B).heap[w.heap.size+1]? =some B/\w.heap.size+1<((w.alloc A).alloc B).heap.size/\Below w.heap.size w ((w.alloc A).alloc B):=rD (Below.refl _ _)
theorem Ul{L:List Tok}{p:PS}(hp:p.at_<L.length)(f:L.length<=5000)(g:Nat)(w:World)(h:PW L w g p)(m:(aU L p).aCR≠2)(n:(aU L p).aCR≠3)(o:(aU L p).aCR≠4)(r:(aU L p).aCR≠5)(i:cL L (str "true") p=true):
 Calls prog 265 #[.pointer (some ⟨g,0,none⟩)] w (eS L g w (dD (dA L p).1) (dA L p).2):=by
 have G:=h.lt;have H:=aA h;have k:=aA (fun w h=>gH hp f g w h);have d:=aA (fun w h=>oQ (str "true") hp f g w h);have y:=aA (fun w h=>oQ (str "false") hp f g w h);have C:=aA (fun w h=>lS hp f g w h);have E:=aA (show (dL L p).bad≠0 from lP 5 _ qe p);have z:eR L p=((1,1,ByteArray.empty),p):=by
  unfold eR;dsimp only;rw[iN m,iN n,iN o,iN r,iP i]
 rw[nL z];have j:=aA (lG i).1;rw[i] at d;rw[iN (fun h=>h j.o)];clear i;unfold eS;unfold iA at k;rw[CF] at d;rw[yK] at y;have d2:((aU L p).aCR==2)=false:=bN.2 m;have d3:((aU L p).aCR==3)=false:=bN.2 n;have d4:((aU L p).aCR==4)=false:=bN.2 o;have d5:((aU L p).aCR==5)=false:=bN.2 r;generalize dL L p=q at *;generalize aU L p=t at *;clear h z m n o r;have N:(0:Int)<=p.at_:=qo;have i2:(p.at_:Int)<=5000:=qo;go_enter func265,ntmps265;go_wp2_with fail;refine(k.o _ (H.o.on (aB w _))).mono ?_;rintro e w1 ⟨rfl,l⟩;have v:=aA (aE (heap_alloc_new w (.cells fV 55)) l);have x:=aA (aC (aB w (.cells fV 55)) l);have K:=aD v.o;have H1:=aA (H.o.on x.o);have I:=H1.o.lt;clear l k H;have a:=aA (MP w1 (.cells (oB t) 146) (.cells #[.int .i64 0,.int .i64 t.num,.string t.str] 55));go_wp2_with fail;refine(d.o _ (H1.o.on a.o.2.2.2)).mono ?_;rintro e w2 ⟨rfl,b⟩;obtain⟨B,s,HK2,H2⟩:=dG (aE (aE (aE v.o (aB w1 _)) (aB _ _)) b) (aE a.o.2.1 b) (show cX w.heap.size g w w2 from (aJ (aC (aC x.o a.o.2.2.2) b))) ((H1.o.on a.o.2.2.2).on b);obtain⟨A,c,c0,c1,c2,c3,c4,D⟩:=H2.o.cells;have f1:=H2.o.free 1;have J:=H2.o.lt;obtain⟨⟨R,S,T⟩,g0,g1,g2⟩:=cE B.o;obtain⟨⟨O,P,Q⟩,f0,F,f2⟩:=cE s.o;have M:=aD s.o;clear b D c0 c2 c4 d y C H1 a;rw[j.o] at c3;clear j;go_wp2;refine bR (.agg #[.int .i64 1,.int .i64 1,.string ⟨#[]⟩]) ?_;exact QBy
theorem Um{L:List Tok}{p:PS}(hp:p.at_<L.length)(k:L.length<=5000)(g:Nat)(w:World)(h:PW L w g p)(v:(aU L p).aCR≠2)(x:(aU L p).aCR≠3)(y:(aU L p).aCR≠4)(z:(aU L p).aCR≠5)(s:cL L (str "true") p=false)(l:cL L (str "false") p=true):
 Calls prog 265 #[.pointer (some ⟨g,0,none⟩)] w (eS L g w (dD (dA L p).1) (dA L p).2):=by
 have J:=h.lt;have H:=aA h;have o:=aA (fun w h=>gH hp k g w h);have j:=aA (fun w h=>oQ (str "true") hp k g w h);have i:=aA (fun w h=>oQ (str "false") hp k g w h);have E:=aA (fun w h=>lS hp k g w h);have G:=aA (show (dL L p).bad≠0 from lP 5 _ qe p);have D:eR L p=((1,0,ByteArray.empty),p):=by
  unfold eR;dsimp only;rw[iN v,iN x,iN y,iN z,iN (by rw[s];decide),iP l]
 rw[nL D];have n:=aA (lG l).1;rw[l] at i;rw[s] at j;rw[iN (fun h=>h n.o)];clear l s;unfold eS;unfold iA at o;rw[CF] at j;rw[yK] at i;have d2:((aU L p).aCR==2)=false:=bN.2 v;have d3:((aU L p).aCR==3)=false:=bN.2 x;have d4:((aU L p).aCR==4)=false:=bN.2 y;have d5:((aU L p).aCR==5)=false:=bN.2 z;generalize dL L p=q at *;generalize aU L p=t at *;clear h D v x y z;have P:(0:Int)<=p.at_:=qo;have i2:(p.at_:Int)<=5000:=qo;go_enter func265,ntmps265;go_wp2_with fail;refine(o.o _ (H.o.on (aB w _))).mono ?_;rintro e w1 ⟨rfl,r⟩;have B:=aA (aE (heap_alloc_new w (.cells fV 55)) r);have C:=aA (aC (aB w (.cells fV 55)) r);have N:=aD B.o;have H1:=aA (H.o.on C.o);have K:=H1.o.lt;clear r o H;have a:=aA (MP w1 (.cells (oB t) 146) (.cells #[.int .i64 0,.int .i64 t.num,.string t.str] 55));go_wp2_with fail;refine(j.o _ (H1.o.on a.o.2.2.2)).mono ?_;rintro e w2 ⟨rfl,b⟩;obtain⟨m,f,HK2,H2⟩:=dG (aE (aE (aE B.o (aB w1 _)) (aB _ _)) b) (aE a.o.2.1 b) (show cX w.heap.size g w w2 from (aJ (aC (aC C.o a.o.2.2.2) b))) ((H1.o.on a.o.2.2.2).on b);go_wp2_with fail;refine(i.o _ H2.o).mono ?_;rintro e Q ⟨rfl,d⟩;clear b j;obtain⟨m,f,HK2,H2⟩:=dG (aE m.o d) (aE f.o d) (HK2.o.new d) (H2.o.on d);obtain⟨A,c,c0,c1,c2,c3,c4,F⟩:=H2.o.cells;have f1:=H2.o.free 1;have M:=H2.o.lt;obtain⟨⟨U,V,W⟩,g0,g1,g2⟩:=cE m.o;obtain⟨⟨R,S,T⟩,f0,I,f2⟩:=cE f.o;have O:=aD f.o;clear d F c0 c2 c4 i E H1 a;rw[n.o] at c3;clear n;go_wp2;refine bR (.agg #[.int .i64 1,.int .i64 0,.string ⟨#[]⟩]) ?_;exact QBy
theorem Un{L:List Tok}{p:PS}(hp:p.at_<L.length)(o:L.length<=5000)(g:Nat)(w:World)(h:PW L w g p)(z:(aU L p).aCR≠2)(B:(aU L p).aCR≠3)(b:(aU L p).aCR≠4)(C:(aU L p).aCR≠5)(y:cL L (str "true") p=false)(x:cL L (str "false") p=false):
 Calls prog 265 #[.pointer (some ⟨g,0,none⟩)] w (eS L g w (dD (dA L p).1) (dA L p).2):=by
 have M:=h.lt;have H:=aA h;have r:=aA (fun w h=>gH hp o g w h);have n:=aA (fun w h=>oQ (str "true") hp o g w h);have m:=aA (fun w h=>oQ (str "false") hp o g w h);have F:=aA (fun w h=>lS hp o g w h);have s:=aA (show (dL L p).bad≠0 from lP 5 _ qe p);have G:eR L p=((0,(aU L p).num,(aU L p).str),dL L p):=by
  unfold eR;dsimp only;rw[iN z,iN B,iN b,iN C,iN (by rw[y];decide),iN (by rw[x];decide)]
 rw[nL G];rw[x] at m;rw[y] at n;rw[iP s.o];clear x y;unfold eS;unfold iA at r;rw[CF] at n;rw[yK] at m;have d2:((aU L p).aCR==2)=false:=bN.2 z;have d3:((aU L p).aCR==3)=false:=bN.2 B;have d4:((aU L p).aCR==4)=false:=bN.2 b;have d5:((aU L p).aCR==5)=false:=bN.2 C;generalize dL L p=q at *;generalize aU L p=t at *;clear h G z B b C;have R:(0:Int)<=p.at_:=qo;have i2:(p.at_:Int)<=5000:=qo;go_enter func265,ntmps265;go_wp2_with fail;refine(r.o _ (H.o.on (aB w _))).mono ?_;rintro e w1 ⟨rfl,v⟩;have D:=aA (aE (heap_alloc_new w (.cells fV 55)) v);have E:=aA (aC (aB w (.cells fV 55)) v);have P:=aD D.o;have H1:=aA (H.o.on E.o);have N:=H1.o.lt;clear v r H;have j:=aA (MP w1 (.cells (oB t) 146) (.cells #[.int .i64 0,.int .i64 t.num,.string t.str] 55));go_wp2_with fail;refine(n.o _ (H1.o.on j.o.2.2.2)).mono ?_;rintro e w2 ⟨rfl,k⟩;obtain⟨f,d,i,a⟩:=dG (aE (aE (aE D.o (aB w1 _)) (aB _ _)) k) (aE j.o.2.1 k) (show cX w.heap.size g w w2 from (aJ (aC (aC E.o j.o.2.2.2) k))) ((H1.o.on j.o.2.2.2).on k);go_wp2_with fail;refine(m.o _ a.o).mono ?_;rintro e S ⟨rfl,l⟩;clear k n;obtain⟨f,d,i,a⟩:=dG (aE f.o l) (aE d.o l) (i.o.new l) (a.o.on l);go_wp2_with fail;refine(F.o _ a.o).mono ?_;rintro e T ⟨rfl,h4,b⟩;clear l m F;obtain⟨f,d,i,a⟩:=dG (aF f.o b qo) (aF d.o b qo) (i.o.aC8 b) h4;obtain⟨A,c,c0,c1,c2,c3,c4,I⟩:=a.o.cells;have f1:=a.o.free 1;have O:=a.o.lt;obtain⟨⟨X,Y,Z⟩,g0,g1,g2⟩:=cE f.o;obtain⟨⟨U,V,W⟩,f0,K,f2⟩:=cE d.o;have Q:=aD d.o;have J:(q.bad != 0)=true:=bne_iff_ne.2 s.o;clear I c0 c1 c2 c4 H1 j s h4 b;go_wp2
 refine bR (.agg #[.int .i64 0,.int .i64 0,.string ⟨#[]⟩]) ?_;refine⟨rfl,?_,?_⟩
 .exact((a.o.set qo).set qo).set qo
 .exact cX.end (((i.o.set qo).set qo).set qo)
theorem rV{L:List Tok}{p:PS}(T:Toks L)(hp:p.at_<L.length)(g:Nat)(w:World)(h:PW L w g p):
 Calls prog 265 #[.pointer (some ⟨g,0,none⟩)] w (eS L g w (dD (dA L p).1) (dA L p).2):=by
 have a:=T.len;by_cases b:(aU L p).aCR=2
 .exact Uh hp a g w h b
 by_cases c:(aU L p).aCR=3
 .exact Ui hp a g w h c
 by_cases d:(aU L p).aCR=4
 .exact Uj hp a g w h d
 by_cases e:(aU L p).aCR=5
 .exact Uk hp a g w h e
 cases f:cL L (str "true") p
 .cases i:cL L (str "false") p
  .exact Un hp a g w h b c d e f i
  .exact Um hp a g w h b c d e f i
 .exact Ul hp a g w h b c d e f
end Go.Proofs.YtbinmcabjnoliaaGreatDoor
