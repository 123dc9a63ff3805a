/- Lemmas. -/
import Derived.Test.YtkglnboglppgnaaGreatDoorMal
namespace Go.Proofs.YtkglnboglppgnaaGreatDoor
open Go.RowKit
set_option linter.unusedVariables false
set_option linter.unusedSimpArgs false
set_option maxHeartbeats 16000000
open _root_.Go.Proofs.Tryz
set_option maxRecDepth 20000
theorem QDc{p:Prop}(h:p:=by
 obtain⟨u,hu,hu2⟩:=cP.1 hb;injection hu with hu;subst hu;exact(hat b hu2).imp (own b) id):p:=h
theorem QCp{p:Prop}(h:p:=by
 obtain⟨u,hu,hu2⟩:=cP.1 hb;injection hu with hu;subst hu
 rcases hat b hu2 with h2|h2
 .exact hK b hKb h2.symm
 .have:=(h.kept b hKb).1;omega):p:=h
section
variable {K:nP} {base:Nat} {w w' w1:World} {s:Sto} {L:List Mix} {ro:Option Value} {vr vn vo vt vu vk vb:Value} {g n c k:Nat}
theorem bE.beside{vc:Value}(h:bE K base w s L ro vc vr vn vo vt vu vk vb)(d:k<L.length):(∀b,bT L[k].2.1=some b->∀j (hj:j<L.length),(j≠k->bT L[j].2.1≠some b)/\bT L[j].2.2≠some b)/\(∀b,bT L[k].2.2=some b->∀j (hj:j<L.length),(j≠k->bT L[j].2.2≠some b)/\bT L[j].2.1≠some b):=by
 have ha:=DF.1 h.apart;have ne:∀i j (f:i<L.length) (hj:j<L.length) b,bT L[i].2.1=some b->bT L[j].2.2=some b->False:=fun i j f hj b h1 h2=>by
  obtain⟨u,_,g,g1,_⟩:=h.aDL f h1;obtain⟨m,_,l,g2,_⟩:=h.aDM hj h2;exact dU g1 g2 qe g l.symm
 exact⟨fun b c j hj=>⟨fun e a=>(ha k j d hj (Ne.symm e)).1 b c a,fun a=>ne k j d hj b c a⟩,fun b c j hj=>⟨fun e a=>(ha k j d hj (Ne.symm e)).2 b c a,fun a=>ne j k hj d b a c⟩⟩
theorem tM{L:List Mix}{l:List cI}(h:L.map Prod.fst=l)(k:Nat)(x:Mix):(L.set k x).map Prod.fst=l.set k x.1:=by rw[List.map_set,h]
theorem bE.rest(h:bE K base w s L ro (.slice (some ⟨g,0,none⟩) n c) vr vn vo vt vu vk vb){q:nP}(f:aO q w w1)(k:∀b,K b->q b)(z:∀b,vr.ownBlock=some b->q b)(v:∀b,vn.ownBlock=some b->q b)(y:∀b,bT ro=some b->q b)
 {a:List Mix}{l':List cI}(m:a.map Prod.fst=l')(t:∀j (hj:j<a.length),a[j].2.2.isSome=true)(o:pN a)(r:∀j (hj:j<a.length),(∀b,bT a[j].2.1=some b->¬K b)/\(∀b,bT a[j].2.2=some b->¬K b)){i:Nat}{x:Value}
 (p:aN (eA base K) 5 128 (w1.setCell ⟨g,i,none⟩ x) base (fun b=>K b\/base<=b) (.slice (some ⟨g,0,none⟩) n c) a):bE K base (w1.setCell ⟨g,i,none⟩ x) {s with aC2:=l'} a ro (.slice (some ⟨g,0,none⟩) n c) vr vn vo vt vu vk vb:={
 aDb:=h.aDb
 aDg:=h.aDg
 all:=m
 aDu:=t
 apart:=o
 aC2:=p
 aC5:=aN.off cR (h.aC5.stays cR f z (fun _ h _=>h.elim)) (fun h=>h) (fun e=>dU h.aC5 h.aC2 qe e rfl)
 aC8:=aN.off cU (h.aC8.stays cU f v (fun _ h _=>h.elim)) (fun h=>h) (fun e=>dU h.aC8 h.aC2 qe e rfl)
 aDd:=(h.aDd.aDG cM f k y (fun _ h _=>h)).aDG (q:=fun b=>b≠g) cM (aJ x) (fun b d e=>(h.kept b d).2.1 (by rw[e];rfl)) (fun b e l=>by
  obtain⟨u,h2,h3⟩:=h.rol e;exact dU h3 h.aC2 qe h2 (by rw[l];rfl)) (fun _ h _=>h)
 aC4:=(h.aC4.aDc (f.mono fun b _ d=>k b d)).aDc (fJ (fun d=>(h.kept g d).2.1 rfl))
 kept:=fun b d=>⟨by rw[jO];exact lL (h.kept b d).1 f.size,(h.kept b d).2⟩
 aDx:=r
 aDF:=h.aDF
 size:=by rw[jO];exact lT h.size f.size}
theorem AD{L:List Mix}(h:∀j (hj:j<L.length),L[j].2.2.isSome=true){k:Nat}{x:Mix}(a:x.2.2.isSome=true):∀j (hj:j<(L.set k x).length),(L.set k x)[j].2.2.isSome=true:=by
 intro j hj;rw[List.length_set] at hj;rw[List.getElem_set];split
 .exact a
 .exact h j hj
theorem AE{K:nP}{L:List Mix}(h:∀j (hj:j<L.length),(∀b,bT L[j].2.1=some b->¬K b)/\(∀b,bT L[j].2.2=some b->¬K b)){k:Nat}{x:Mix}(a:(∀b,bT x.2.1=some b->¬K b)/\(∀b,bT x.2.2=some b->¬K b)):∀j (hj:j<(L.set k x).length),(∀b,bT (L.set k x)[j].2.1=some b->¬K b)/\(∀b,bT (L.set k x)[j].2.2=some b->¬K b):=by
 intro j hj;rw[List.length_set] at hj;rw[List.getElem_set];split
 .exact a
 .exact h j hj
theorem bE.log(h:bE K base w s L ro (.slice (some ⟨g,0,none⟩) n c) vr vn vo vt vu vk vb)(a:k<L.length){v v':Value}(q:L[k].2.2=some v){d:List tW}(z:w.grownBy w1 v.ownBlock)(m:aN mV 3 181 w1 base (fun _=>False) v' d)(hat:∀b,v'.ownBlock=some b->v.ownBlock=some b\/w.heap.size<=b)(hlen:d.length<=1000000):
 bE K base (w1.setCell ⟨g,k * 5+4,none⟩ v') {s with aC2:=s.aC2.set k {L[k].1 with log:=d}} (L.set k ({L[k].1 with log:=d},L[k].2.1,some v')) ro (.slice (some ⟨g,0,none⟩) n c) vr vn vo vt vu vk vb:=by
 have l:=dC z;have f:=(kH h.aC2 a).2 v q;have H:g<w.heap.size:=(h.aC2.lt g rfl).2;have own:∀b,v.ownBlock=some b->bT L[k].2.2=some b:=fun b hb=>cP.2 ⟨v,q,hb⟩
 have hK:∀b,K b->some b≠v.ownBlock:=fun b hb e=>(h.aDx k a).2 b (own b e.symm) hb
 have o:some g≠v.ownBlock:=fun e=>f.2.1 g e.symm rfl
 have B:∀b,v'.ownBlock=some b->b≠g:=fun b hb e=>by
  rcases hat b hb with h2|h2
  .exact o (by rw[h2,e])
  .omega
 have t:=MT (v:=v') (y:=({L[k].1 with log:=d},L[k].2.1,some v')) h.aC2 a (j:=4) qe l o hK
  (fun i p A=>⟨fun b hb e=>((h.beside a).2 b (own b e.symm) i p).2 hb,fun b hb e=>((h.beside a).2 b (own b e.symm) i p).1 A hb⟩)
  (by
    rintro r ⟨G,I,rfl,C,D,E,F,p5⟩;refine⟨G,v',rfl,C,D,E,?_,rfl,m,fun b hb=>⟨.inr (m.lt b hb).1,(m.lt b hb).2,B b hb⟩,hlen⟩;exact F.aDG bU l hK (fun b hb e=>((h.beside a).2 b (own b e.symm) k a).2 hb) (fun b hb _=>⟨hb.1,lL hb.2.1 l.size,hb.2.2⟩))
 refine h.rest l hK (fun b hb=>dU h.aC5 f.1 qe hb) (fun b hb=>dU h.aC8 f.1 qe hb) (fun b e=> ?_) (tM h.all k ({L[k].1 with log:=d},L[k].2.1,some v')) (AD (x:=({L[k].1 with log:=d},L[k].2.1,some v')) h.aDu rfl) (xC (x:=({L[k].1 with log:=d},L[k].2.1,some v')) h.apart a h.lt (fun b hb=> .inl hb) (fun b hb=> ?_)) (AE (x:=({L[k].1 with log:=d},L[k].2.1,some v')) h.aDx ⟨(h.aDx k a).1,fun b hb hKb=> ?_⟩) t
 .obtain⟨u,h2,h3⟩:=h.rol e;exact dU h3 f.1 qe h2
 .exact QDc
 .exact QCp
theorem bE.aC9(h:bE K base w s L ro (.slice (some ⟨g,0,none⟩) n c) vr vn vo vt vu vk vb)(a:k<L.length){v v':Value}(q:L[k].2.1=some v){d:List pS}(z:w.grownBy w1 v.ownBlock)(m:aN lG 4 193 w1 base (fun _=>False) v' d)(hat:∀b,v'.ownBlock=some b->v.ownBlock=some b\/w.heap.size<=b)(hlen:d.length<=1000000):
 bE K base (w1.setCell ⟨g,k * 5+3,none⟩ v') {s with aC2:=s.aC2.set k {L[k].1 with aC9:=d}} (L.set k ({L[k].1 with aC9:=d},some v',L[k].2.2)) ro (.slice (some ⟨g,0,none⟩) n c) vr vn vo vt vu vk vb:=by
 have l:=dC z;have f:=(kH h.aC2 a).1 v q;have G:g<w.heap.size:=(h.aC2.lt g rfl).2;have own:∀b,v.ownBlock=some b->bT L[k].2.1=some b:=fun b hb=>cP.2 ⟨v,q,hb⟩
 have hK:∀b,K b->some b≠v.ownBlock:=fun b hb e=>(h.aDx k a).1 b (own b e.symm) hb
 have o:some g≠v.ownBlock:=fun e=>f.2.1 g e.symm rfl
 have B:∀b,v'.ownBlock=some b->b≠g:=fun b hb e=>by
  rcases hat b hb with h2|h2
  .exact o (by rw[h2,e])
  .omega
 have t:=MT (v:=v') (y:=({L[k].1 with aC9:=d},some v',L[k].2.2)) h.aC2 a (j:=3) qe l o hK
  (fun i p A=>⟨fun b hb e=>((h.beside a).1 b (own b e.symm) i p).1 A hb,fun b hb e=>((h.beside a).1 b (own b e.symm) i p).2 hb⟩)
  (by
    rintro r ⟨I,F,rfl,C,D,E,H,p5⟩;refine⟨v',F,rfl,C,D,E,⟨rfl,m,fun b hb=>⟨.inr (m.lt b hb).1,(m.lt b hb).2,B b hb⟩,hlen⟩,?_⟩;exact p5.aDG cE l hK (fun b hb e=>((h.beside a).1 b (own b e.symm) k a).2 hb) (fun b hb _=>⟨hb.1,lL hb.2.1 l.size,hb.2.2⟩))
 refine h.rest l hK (fun b hb=>dU h.aC5 f.1 qe hb) (fun b hb=>dU h.aC8 f.1 qe hb) (fun b e=> ?_) (tM h.all k ({L[k].1 with aC9:=d},some v',L[k].2.2)) (AD (x:=({L[k].1 with aC9:=d},some v',L[k].2.2)) h.aDu (h.aDu k a)) (xC (x:=({L[k].1 with aC9:=d},some v',L[k].2.2)) h.apart a h.lt (fun b hb=> ?_) (fun b hb=> .inl hb)) (AE (x:=({L[k].1 with aC9:=d},some v',L[k].2.2)) h.aDx ⟨fun b hb hKb=> ?_,(h.aDx k a).2⟩) t
 .obtain⟨u,h2,h3⟩:=h.rol e;exact dU h3 f.1 qe h2
 .exact QDc
 .exact QCp
theorem bE.aDo(h:bE K base w s L ro (.slice (some ⟨g,0,none⟩) n c) vr vn vo vt vu vk vb)(a:k<L.length){to_:bY}(i:to_.size<=cV):
 bE K base (w.setCell ⟨g,k * 5+2,none⟩ (.string to_)) {s with aC2:=s.aC2.set k {L[k].1 with aDo:=to_}} (L.set k ({L[k].1 with aDo:=to_},L[k].2.1,L[k].2.2)) ro (.slice (some ⟨g,0,none⟩) n c) vr vn vo vt vu vk vb:=by
 have e:aO (fun _=>True) w w:=aO.refl _ w;have f:=MT (v:= .string to_) (y:=({L[k].1 with aDo:=to_},L[k].2.1,L[k].2.2)) h.aC2 a (j:=2) qe e trivial (fun _ _=>trivial) (fun _ _ _=>⟨fun _ _=>trivial,fun _ _=>trivial⟩)
  (by
    rintro r ⟨p,q,rfl,l,m,t,o,p5⟩;exact⟨p,q,rfl,l,m,i,o,p5⟩)
 exact h.rest e (fun _ _=>trivial) (fun _ _=>trivial) (fun _ _=>trivial) (fun _ _=>trivial) (tM h.all k ({L[k].1 with aDo:=to_},L[k].2.1,L[k].2.2)) (AD h.aDu (x:=({L[k].1 with aDo:=to_},L[k].2.1,L[k].2.2)) (h.aDu k a)) (xC (x:=({L[k].1 with aDo:=to_},L[k].2.1,L[k].2.2)) h.apart a h.lt (fun b d=> .inl d) (fun b d=> .inl d)) (AE h.aDx (x:=({L[k].1 with aDo:=to_},L[k].2.1,L[k].2.2)) (h.aDx k a)) f
end
section
variable {K:nP} {base:Nat} {w w' w1:World} {s:Sto} {L:List Mix} {ro:Option Value} {vc vr vn vo vt vu vk vb:Value} {g n c k:Nat}
theorem bE.aDn(h:bE K base w s L ro vc vr vn vo vt vu vk vb)(c:k<L.length){v:Value}(g:L[k].2.1=some v){f:List pS}(d:aO (fun b=>some b≠v.ownBlock) w w')(q:aN lG 4 193 w' base (fun _=>False) v f)(hlen:f.length=L[k].1.aC9.length):
 bE K base w' {s with aC2:=s.aC2.set k {L[k].1 with aC9:=f}} (L.set k ({L[k].1 with aC9:=f},some v,L[k].2.2)) ro vc vr vn vo vt vu vk vb:=by
 have l:=(kH h.aC2 c).1 v g;have own:∀b,v.ownBlock=some b->bT L[k].2.1=some b:=fun b a=>cP.2 ⟨v,g,a⟩
 have j:∀b,K b->some b≠v.ownBlock:=fun b a e=>(h.aDx k c).1 b (own b e.symm) a
 have t:=Ok h.aC2 d (fun b a=>dU h.aC2 l.1 qe a) c (y:=({L[k].1 with aC9:=f},some v,L[k].2.2)) j
  (fun i n z=>⟨fun b a e=>((h.beside c).1 b (own b e.symm) i n).1 z a,fun b a e=>((h.beside c).1 b (own b e.symm) i n).2 a⟩)
  (by
    rintro r ⟨E,F,rfl,A,B,C,o,p5⟩;rw[g] at o;obtain⟨p,q1,m,D⟩:=o;subst p;refine⟨E,F,rfl,A,B,C,⟨rfl,q,fun b a=>⟨(m b a).1,lL (m b a).2.1 d.size,(m b a).2.2⟩,by rw[hlen];exact D⟩,?_⟩;exact p5.aDG cE d j (fun b a e=>((h.beside c).1 b (own b e.symm) k c).2 a) (fun b a _=>⟨a.1,lL a.2.1 d.size,a.2.2⟩))
 exact {aDF:=h.aDF,aDb:=h.aDb,aDg:=h.aDg,all:=tM h.all k ({L[k].1 with aC9:=f},some v,L[k].2.2),aDu:=AD (x:=({L[k].1 with aC9:=f},some v,L[k].2.2)) h.aDu (h.aDu k c),apart:=xC (x:=({L[k].1 with aC9:=f},some v,L[k].2.2)) h.apart c h.lt (fun b a=> .inl (by rw[g];exact a)) (fun b a=> .inl a),aC2:=t,aC5:=h.aC5.stays cR d (fun b a=>dU h.aC5 l.1 qe a) (fun _ h _=>h.elim),aC8:=h.aC8.stays cU d (fun b a=>dU h.aC8 l.1 qe a) (fun _ h _=>h.elim),aDd:=h.aDd.aDG cM d j (fun b e=>by obtain⟨u,h2,h3⟩:=h.rol e;exact dU h3 l.1 qe h2) (fun _ h _=>h),aC4:=h.aC4.aDc (d.mono fun b _ a=>j b a),kept:=fun b a=>⟨lL (h.kept b a).1 d.size,(h.kept b a).2⟩,aDx:=AE (x:=({L[k].1 with aC9:=f},some v,L[k].2.2)) h.aDx ⟨fun b a=>(h.aDx k c).1 b (by rw[g];exact a),(h.aDx k c).2⟩,size:=lT h.size d.size}
theorem bE.close(h:bE K base w s L ro vc (.slice (some ⟨g,0,none⟩) n c) vn vo vt vu vk vb)(m:k<s.aC5.length){b:Bool}:
 bE K base (w.setCell ⟨g,k * 7+6,none⟩ (.bool b)) {s with aC5:=s.aC5.set k {s.aC5[k] with open_:=b}} L ro vc (.slice (some ⟨g,0,none⟩) n c) vn vo vt vu vk vb:=by
 have a:=aN.setAt cR (j:=6) (x:= .bool b) (y:={s.aC5[k] with open_:=b}) h.aC5 m qe (by rintro r ⟨rfl,p⟩;exact⟨rfl,p⟩);have f:w.grownBy (w.setCell ⟨g,k * 7+6,none⟩ (.bool b)) (some g):=by
  have h1:=aJ (w:=w) (g:=g) (i:=k * 7+6) (.bool b);exact⟨h1.os,h1.tape,h1.output,h1.size,fun i l o=>h1.block i l (fun e=>o (by rw[e]))⟩
 exact h.aDq f a (fun b d=> .inl d)
theorem bE.insert(h:bE K base w s L ro vc vr vn vo vt vu vk vb)(E:k<=L.length){xs cs:List Value}(J:w.ownsRow base 128 5 vc L.length xs/\aZ (eA base K w (fun b=>(K b\/base<=b)/\b<w.heap.size/\some b≠vc.ownBlock)) xs L)
 {x:Mix}(I:eA base K w (fun b=>(K b\/base<=b)/\b<w.heap.size/\some b≠vc.ownBlock) cs x)(H:x.2.2.isSome=true){m:Nat}(hm:∀j (hj:j<L.length),(∀b,bT L[j].2.1=some b->b<m)/\(∀b,bT L[j].2.2=some b->b<m))(h1:∀b,bT x.2.1=some b->m<=b)(h2:∀b,bT x.2.2=some b->m<=b)(p:∀b,K b->m<=b->bT x.2.1≠some b/\bT x.2.2≠some b)
 {A:oD}{f:Nat}(G:w'.ownsRow base 128 5 (.slice A (L.length+1) f) (L.length+1) (xs.take (k * 5)++cs++xs.drop (k * 5)))(D:w.grownBy w' vc.ownBlock)(q:∀b,(Value.slice A (L.length+1) f).ownBlock=some b->vc.ownBlock=some b\/w.heap.size<=b)
 (t:∀b,bT x.2.1=some b\/bT x.2.2=some b->some b≠vc.ownBlock):
 bE K base w' {s with aC2:=s.aC2.take k++[x.1]++s.aC2.drop k} (L.take k++[x]++L.drop k) ro (.slice A (L.length+1) f) vr vn vo vt vu vk vb:=by
 have d:=dC D;have l:∀b,K b->some b≠vc.ownBlock:=fun b a=>(h.kept b a).2.1
 have y:(L.take k++[x]++L.drop k).length=L.length+1:=by simp only[aL,List.length_take,List.length_drop,List.length_cons,List.length_nil];omega
 have F:∀b,(K b\/base<=b)/\b<w.heap.size/\some b≠vc.ownBlock->b<w.heap.size->(K b\/base<=b)/\b<w'.heap.size/\some b≠(Value.slice A (L.length+1) f).ownBlock:=fun b a _=>⟨a.1,lL a.2.1 d.size,fun e=>by
  rcases q b e.symm with h3|h3
  .exact a.2.2 h3.symm
  .have:=a.2.1;omega⟩
 have C:∀r z,(z=x\/∃j,∃hj:j<L.length,z=L[j])->eA base K w (fun b=>(K b\/base<=b)/\b<w.heap.size/\some b≠vc.ownBlock) r z->eA base K w' (fun b=>(K b\/base<=b)/\b<w'.heap.size/\some b≠(Value.slice A (L.length+1) f).ownBlock) r z:=fun r z v g=>by
  refine AB g d l (fun b a=> ?_) (fun b a=> ?_) F
  .rcases v with rfl|⟨j,hj,rfl⟩
   .exact t b (.inl a)
   .obtain⟨u,_,_,_,h5⟩:=h.aDL hj a;exact h5
  .rcases v with rfl|⟨j,hj,rfl⟩
   .exact t b (.inr a)
   .obtain⟨u,_,_,_,h5⟩:=h.aDM hj a;exact h5
 have B:aZ (eA base K w (fun b=>(K b\/base<=b)/\b<w.heap.size/\some b≠vc.ownBlock)) (xs.take (k * 5)++cs++xs.drop (k * 5)) (L.take k++[x]++L.drop k):=by
  have h3:=J.2.split (fun r x g=>(dQ base K).len g) k E;exact(h3.1.append (aZ.one I)).append h3.2
 have o:∀i (c:i<(L.take k++[x]++L.drop k).length),(L.take k++[x]++L.drop k)[i]=x\/∃j,∃hj:j<L.length,(L.take k++[x]++L.drop k)[i]=L[j]:=fun i c=>by
  have h3:=List.getElem_mem c
  rcases List.mem_append.1 h3 with h4|h4
  .rcases List.mem_append.1 h4 with h5|h5
   .obtain⟨j,hj,e⟩:=List.getElem_of_mem (List.mem_of_mem_take h5);exact .inr ⟨j,hj,e.symm⟩
   .exact .inl (by simpa using h5)
  .obtain⟨j,hj,e⟩:=List.getElem_of_mem (List.mem_of_mem_drop h4);exact .inr ⟨j,hj,e.symm⟩
 refine {aDF:=h.aDF,aDb:=h.aDb,aDg:=h.aDg,all:= ?_,aDu:=fun j hj=> ?_,apart:=Hz h.apart hm h1 h2,aC2:=⟨_,by rw[y];exact G,aZ.aDJ (fun i c r g=>C r _ (o i c) g) B⟩,aC5:=h.aC5.stays cR d (fun b a=>dU h.aC5 h.aC2 qe a) (fun _ h _=>h.elim),aC8:=h.aC8.stays cU d (fun b a=>dU h.aC8 h.aC2 qe a) (fun _ h _=>h.elim),aDd:=h.aDd.aDG cM d l (fun b e=>by obtain⟨u,h2,h3⟩:=h.rol e;exact dU h3 h.aC2 qe h2) (fun _ h _=>h),aC4:=h.aC4.aDc (d.mono fun b _ a=>l b a),kept:=fun b a=>⟨lL (h.kept b a).1 d.size,fun e=> ?_,(h.kept b a).2.2⟩,aDx:=fun j hj=> ?_,size:=lT h.size d.size}
 .rw[List.map_append,List.map_append,List.map_take,List.map_drop,h.all];rfl
 .rcases o j hj with e|⟨i,c,e⟩
  .rw[e];exact H
  .rw[e];exact h.aDu i c
 .rcases q b e.symm with h3|h3
  .exact l b a h3.symm
  .have:=(h.kept b a).1;omega
 .rcases o j hj with e|⟨i,c,e⟩
  .rw[e];exact⟨fun b a n=>(p b n (h1 b a)).1 a,fun b a n=>(p b n (h2 b a)).2 a⟩
  .rw[e];exact h.aDx i c
end
def AF(o:Option cI)(w:World)(e:Ending)(w':World):Prop:=(o=none/\e=.returned (.tuple #[.agg #[.string ⟨#[]⟩,.string ⟨#[]⟩,.string ⟨#[]⟩,.slice none 0 0,.slice none 0 0],.bool false])/\Below w.heap.size w w')\/(∃c a b,o=some c/\e=.returned (.tuple #[.agg #[.string c.id,.string c.aDv,.string c.aDo,a,b],.bool true])/\TW c w a b w')
theorem DG{ok:nP}(s:Sto)(vc vr vn vo vt vu vk vb:Value)(N:bY)(w:World)(h:fB w ok s vc vr vn vo vt vu vk vb):Calls prog 51 #[.agg (aX s vc vr vn vo vt vu vk vb),.string N] w (AF (eV s N) w):=by
 obtain⟨Y,Z,ra,rc,na,nc,oa,oc,ta,tc,ua,uc,ka,kc,W,X,rfl,_,rfl,_,rfl,_,rfl,_,rfl,_,rfl,_,rfl,_,rfl,_⟩:=h.sl;obtain⟨W0,g⟩:=xE ((w.alloc (.cells (fV s Y Z ra rc na nc oa oc ta tc ua uc ka kc W X) 40)).alloc (.cells #[.string ⟨#[]⟩,.string ⟨#[]⟩,.string ⟨#[]⟩,.slice none 0 0,.slice none 0 0] 128));have j:Hid (Below w.heap.size w W0):=aA (by rw[g];exact aC (aB _ _) (aB _ _));have A:Hid (W0.heap[w.heap.size]? =some (.cells (fV s Y Z ra rc na nc oa oc ta tc ua uc ka kc W X) 40 (0,0))):=aA (by rw[g];exact aF (aM _ _ _ rfl) (aB _ _));have R:Hid (W0.heap[w.heap.size+1]? =some (.cells #[.string ⟨#[]⟩,.string ⟨#[]⟩,.string ⟨#[]⟩,.slice none 0 0,.slice none 0 0] 128 (0,0))):=aA (by rw[g];exact aM _ _ _ qs);obtain⟨ag,n,O,m⟩:=dJ g (IY s _ _ _ _ _ _ _ _ N W0 (h.on j.o)) (aI.on dV h.aC2 j.o) (EZ s N);obtain⟨⟨i,b⟩,hF⟩:∃F,aY s N=F:=⟨_,rfl⟩;rw[hF] at m n;unfold aP at n;unfold aX at *;have ao:=aA j.o;obtain⟨⟨a0,a1,a2,a3,a4,a5,a6,a7,a8,a9,ah,ai,a12⟩,_⟩:=bK A.o;have za:=aE A.o;clear h g hF;go_enter func51,ntmps51;go_wp2_with fail;rw[<-ag.o];refine n.o.mono ?_;rintro e w1 ⟨rfl,a⟩;have l:=qB j a;have ad:=aA (O.o.on dV a);clear a0 a1 a2 a3 a4 a5 a6 a7 a8 a9 ah ai a12 za;replace A:=qK A a;obtain⟨⟨y,z,E,G,H,I,J,K,L,M,B,C,D⟩,_⟩:=bK A.o;have zA:=aE A.o;replace R:=qK R a;obtain⟨⟨Q,S,T,U,V⟩,_⟩:=dO R.o;have x:=aE R.o;clear a n O
 rcases m.o with ⟨d,f⟩|⟨k,hk,d,f⟩
 .replace f:b=false:=f;subst f;have q:=aA d;clear m d;have f0:=aS R.o 0;have f1:=aS R.o 1;have f2:=aS R.o 2;have f3:=aS R.o 3;have f4:=aS R.o 4;go_wp2;refine bR (.tuple #[.agg #[.string ⟨#[]⟩,.string ⟨#[]⟩,.string ⟨#[]⟩,.slice none 0 0,.slice none 0 0],.bool false]) ?_;exact .inl ⟨q.o,rfl,Ab l.o (Nat.le_succ _)⟩
 .injection d with d e3;subst d e3;obtain⟨b,off,r,rfl,_,aq,⟨vf,vl,rfl,o⟩,aa⟩:=aI.at dV ad.o hk qe;obtain⟨fa,fc,rfl,_⟩:=o.2.2.2.1.slice;obtain⟨la,lc,rfl,_⟩:=o.2.2.2.2.slice;obtain⟨x0,x1,x2,x3,x4⟩:=JV aa;rw[Nat.add_zero] at x0;have ar:(i:Int)<(s.aC2.length:Int):=qo;have q:=aA f;clear m aa f;generalize s.aC2[i]=c at *;have p:=aA (GA c _ _ w1 o);unfold xV TW at p;clear o;go_wp2_with fail;refine p.o.mono ?_;rintro e w2 ⟨au,av,rfl,t,v,a⟩;obtain⟨aj,ak,rfl⟩:=t.slice;obtain⟨al,an,rfl⟩:=v.slice;have P:Hid (w.heap.size+1<w1.heap.size):=aA x;obtain⟨ae,af,ab⟩:=bA t v (aC l.o a)
  try clear y z E G H I J K L M B C D zA
  replace A:=qK A a;obtain⟨⟨y,z,E,G,H,I,J,K,L,M,B,C,D⟩,_⟩:=bK A.o;have zA:=aE A.o
  try clear Q S T U V x
  replace R:=qK R a;obtain⟨⟨Q,S,T,U,V⟩,_⟩:=dO R.o;have x:=aE R.o;have f0:=aS R.o 0;have f1:=aS R.o 1;have f2:=aS R.o 2;have f3:=aS R.o 3;have f4:=aS R.o 4;clear p t v a x0 x1 x2 x3 x4;go_wp2;refine bR (.tuple #[.agg #[.string c.id,.string c.aDv,.string c.aDo,.slice aj c.aC9.length ak,.slice al c.log.length an],.bool true]) ?_;refine .inr ⟨c,_,_,q.o,rfl,aN.less ?_ l.o.size,aN.less ?_ l.o.size,Ab ab.o (Nat.le_succ _)⟩
  .repeat (refine aN.aD3 bU ?_ P.o zZ)
   exact ae.o
  .repeat (refine aN.aD3 cE ?_ P.o zZ)
   exact af.o
theorem wC{L:List Tok}{p:PS}(T:Toks L)(hp:p.at_<L.length)(g:Nat)(w:World)(h:PW L w g p):
 Calls prog 264 #[.pointer (some ⟨g,0,none⟩)] w (eT L g w (oI (cG L p).1) (cG L p).2):=by
 have P:=h.lt;have H:=aA h;have h1:=dS T [str "subject",str "action",str "case",str "env"] hp;have h2:=gC T (str ".") h1.lt;have h3:=jF T h2.lt;have n:=aA (fun a c w h hw=>nF T [str "subject",str "action",str "case",str "env"] a c 4 rfl qe hp g w h hw);have o:=aA (fun w h=>mH T (str ".") h1.lt g w h);have D:=aA (fun w h=>rC T h2.lt g w h);have q:=aA (fun w h=>eO T (str "!") h3.lt g w h);unfold eT cG;dsimp only;clear h h1 h2 h3;generalize bB L [str "subject",str "action",str "case",str "env"] p=m at *;generalize eI L (str ".") m.2=I at *;generalize bV L I=s at *;generalize kO L (str "!") s.2=J at *;rw[Hd,Nu,Xn,aAb] at n;rw[aAa] at o;rw[Xm] at q;go_enter func264,ntmps264;go_wp2_with fail;obtain⟨b0,b1,Q,r⟩:=rE (w:=w) (aB ((w.alloc (.cells #[.int .i64 0,.string ⟨#[]⟩,.bool false] 279)).alloc (.cells #[.int .i64 0,.string ⟨#[]⟩,.bool false] 279)) (.cells #[.string ⟨#[115,117,98,106,101,99,116]⟩,.string ⟨#[97,99,116,105,111,110]⟩,.string ⟨#[99,97,115,101]⟩,.string ⟨#[101,110,118]⟩] 9));have z:Hid (dD w.heap.size g w _):=aA (aK r);refine(n.o _ _ _ (H.o.on r) (nG _ _ _ _ _ qs rfl)).mono ?_;rintro e w1 ⟨rfl,h1,i⟩;have A:=aA (z.o.aDk i);have b0:=aG b0 i qo;have b1:=aG b1 i qo;obtain⟨⟨t,v,x⟩,f0,f1,f2⟩:=cF b1;obtain⟨f,d,H1⟩:=bA b0 b1 h1;clear n z H r i h1 b0 b1;go_wp2_with fail;refine(o.o _ (H1.o.set qo)).mono ?_;rintro e w2 ⟨rfl,h2,j⟩;obtain⟨B,f,d,E⟩:=dJ ((A.o.set (b:=w.heap.size+1) qo).aDk j) (aG (bG f.o qo) j qo) (aG (aH d.o 0 _) j qo:w2.heap[w.heap.size+1]? =some (.cells #[.int .i64 m.1,.string ⟨#[]⟩,.bool false] 279 (0,0))) (D.o _ h2)
 clear o A H1 h2 j D t v x f0 f1 f2;go_wp2_with fail;refine(E.o).mono ?_;rintro e S ⟨rfl,h3,k⟩;obtain⟨C,f,d⟩:=bA (B.o.aDk k) (aG f.o k qo) (aG d.o k qo);obtain⟨⟨t,v,x⟩,f0,f1,f2⟩:=cF d.o;have y:=aA h3;clear E B h3 k;go_wp2_with fail;refine(q.o _ (y.o.set qo)).mono ?_;rintro e K ⟨rfl,h4,l⟩;obtain⟨G,f,d⟩:=bA ((C.o.set (b:=w.heap.size+1) qo).aDk l) (aG (bG f.o qo) l qo) (aG (aH d.o 1 _) l qo:K.heap[w.heap.size+1]? =some (.cells #[.int .i64 m.1,.string s.1,.bool false] 279 (0,0)));obtain⟨⟨U,V,W⟩,g0,g1,g2⟩:=cF d.o;obtain⟨⟨z0,X,z2⟩,M,N,O⟩:=cF f.o;have R:=aE d.o;have F:=aA h4;clear q C y h4 l t v x f0 f1 f2;go_wp2;refine bR (.agg #[.int .i64 m.1,.string s.1,.bool J.1]) ?_;refine⟨rfl,?_,?_⟩
 .exact(((F.o.set qo).set qo).set qo).set qo
 .exact dD.end ((((G.o.set qo).set qo).set qo).set qo)
theorem Sr{p:Prop}(h:p:=by
 refine⟨rfl,?_,?_⟩
 .exact(((((H1.o.step (by go_num)).set qo).set qo).set qo).alloc).alloc
 .exact dD.end ((((((dD.step (aK HB1.o)).set qo).set qo).set qo).alloc).alloc)):p:=h
theorem Ss{p:Prop}(h:p:=by
 rw[iP hb];have db:(p.bad != 0)=true:=bne_iff_ne.2 hb;clear hb;go_enter func265,ntmps265;go_wp2_with fail;refine(HH.o _ (H.o.on (aB w _))).mono ?_;rintro e w1 ⟨rfl,hb1⟩;have HB0:=aA (aF (heap_alloc_new w (.cells fX 64)) hb1);have HB1:=aA (aC (aB w (.cells fX 64)) hb1);have h1:=H.o.on HB1.o;obtain⟨A,c,c0,c1,c2,c3,c4,hs⟩:=h1.cells;have f1:=h1.free 1;have hgl1:=h1.lt;obtain⟨⟨y0,y1,y2⟩,g0,g1,g2⟩:=cF HB0.o;have hz1:=aE HB0.o;have H1:=aA h1;clear hb1 hs h1 c0 c2 c4 HH H;go_wp2;refine bR (.agg #[.int .i64 0,.int .i64 0,.string ⟨#[]⟩]) ?_;refine⟨rfl,?_,?_⟩
 .exact((((H1.o.set qo).set qo).set qo).alloc).alloc
 .exact dD.end (((((dD.set (aK HB1.o) qo).set qo).set qo).alloc).alloc)):p:=h
theorem nO{L:List Tok}{p:PS}{v:V3}{q:PS}(h:eS L p=(v,q)):dE L p=if q.bad≠0 then (bF,q) else (v,{q with at_:=q.at_+1}):=by rw[zL,h]
theorem Ut{L:List Tok}{p:PS}(hp:p.at_<L.length)(d:L.length<=5000)(g:Nat)(w:World)(h:PW L w g p)(a:(aW L p).aC3=2):
 Calls prog 265 #[.pointer (some ⟨g,0,none⟩)] w (eT L g w (dH (dE L p).1) (dE L p).2):=by
 have f:=h.lt;have H:=aA h;have HH:=aA (fun w h=>gK hp d g w h);have b:eS L p=((2,(aW L p).num,(aW L p).str),p):=by
  unfold eS;dsimp only;rw[iP a]
 rw[nO b];unfold eT;unfold iC at HH;generalize aW L p=t at *;clear h b;have d2:(t.aC3==2)=true:=bQ.2 a;clear a;have i:(0:Int)<=p.at_:=qo;have i2:(p.at_:Int)<=5000:=qo;by_cases hb:p.bad=0
 .rw[iN (fun h=>h hb)];go_enter func265,ntmps265;go_wp2_with fail;refine(HH.o _ (H.o.on (aB w _))).mono ?_;rintro e w1 ⟨rfl,hb1⟩;have HB0:=aA (aF (heap_alloc_new w (.cells fX 64)) hb1);have HB1:=aA (aC (aB w (.cells fX 64)) hb1);have h1:=H.o.on HB1.o;obtain⟨A,c,c0,c1,c2,c3,c4,hs⟩:=h1.cells;have f1:=h1.free 1;have hgl1:=h1.lt;obtain⟨⟨y0,y1,y2⟩,g0,g1,g2⟩:=cF HB0.o;have hz1:=aE HB0.o;have H1:=aA h1;clear hb1 hs h1 c0 c2 c4 HH H;rw[hb] at c3;clear hb;go_wp2;refine bR (.agg #[.int .i64 2,.int .i64 t.num,.string t.str]) ?_;exact Sr
 .exact Ss
theorem Uu{L:List Tok}{p:PS}(hp:p.at_<L.length)(d:L.length<=5000)(g:Nat)(w:World)(h:PW L w g p)(a:(aW L p).aC3=3):
 Calls prog 265 #[.pointer (some ⟨g,0,none⟩)] w (eT L g w (dH (dE L p).1) (dE L p).2):=by
 have f:=h.lt;have H:=aA h;have HH:=aA (fun w h=>gK hp d g w h);have b:eS L p=((4,(aW L p).num,(aW L p).str),p):=by
  unfold eS;dsimp only;rw[iN qo];rw[iP a]
 rw[nO b];unfold eT;unfold iC at HH;generalize aW L p=t at *;clear h b;have d2:(t.aC3==2)=false:=bN.2 qo;have d3:(t.aC3==3)=true:=bQ.2 a;clear a;have i:(0:Int)<=p.at_:=qo;have i2:(p.at_:Int)<=5000:=qo;by_cases hb:p.bad=0
 .rw[iN (fun h=>h hb)];go_enter func265,ntmps265;go_wp2_with fail;refine(HH.o _ (H.o.on (aB w _))).mono ?_;rintro e w1 ⟨rfl,hb1⟩;have HB0:=aA (aF (heap_alloc_new w (.cells fX 64)) hb1);have HB1:=aA (aC (aB w (.cells fX 64)) hb1);have h1:=H.o.on HB1.o;obtain⟨A,c,c0,c1,c2,c3,c4,hs⟩:=h1.cells;have f1:=h1.free 1;have hgl1:=h1.lt;obtain⟨⟨y0,y1,y2⟩,g0,g1,g2⟩:=cF HB0.o;have hz1:=aE HB0.o;have H1:=aA h1;clear hb1 hs h1 c0 c2 c4 HH H;rw[hb] at c3;clear hb;go_wp2;refine bR (.agg #[.int .i64 4,.int .i64 t.num,.string t.str]) ?_;exact Sr
 .exact Ss
theorem Uv{L:List Tok}{p:PS}(hp:p.at_<L.length)(d:L.length<=5000)(g:Nat)(w:World)(h:PW L w g p)(a:(aW L p).aC3=4):
 Calls prog 265 #[.pointer (some ⟨g,0,none⟩)] w (eT L g w (dH (dE L p).1) (dE L p).2):=by
 have f:=h.lt;have H:=aA h;have HH:=aA (fun w h=>gK hp d g w h);have b:eS L p=((5,(aW L p).num,(aW L p).str),p):=by
  unfold eS;dsimp only;rw[iN qo];rw[iN qo];rw[iP a]
 rw[nO b];unfold eT;unfold iC at HH;generalize aW L p=t at *;clear h b;have d2:(t.aC3==2)=false:=bN.2 qo;have d3:(t.aC3==3)=false:=bN.2 qo;have d4:(t.aC3==4)=true:=bQ.2 a;clear a;have i:(0:Int)<=p.at_:=qo;have i2:(p.at_:Int)<=5000:=qo;by_cases hb:p.bad=0
 .rw[iN (fun h=>h hb)];go_enter func265,ntmps265;go_wp2_with fail;refine(HH.o _ (H.o.on (aB w _))).mono ?_;rintro e w1 ⟨rfl,hb1⟩;have HB0:=aA (aF (heap_alloc_new w (.cells fX 64)) hb1);have HB1:=aA (aC (aB w (.cells fX 64)) hb1);have h1:=H.o.on HB1.o;obtain⟨A,c,c0,c1,c2,c3,c4,hs⟩:=h1.cells;have f1:=h1.free 1;have hgl1:=h1.lt;obtain⟨⟨y0,y1,y2⟩,g0,g1,g2⟩:=cF HB0.o;have hz1:=aE HB0.o;have H1:=aA h1;clear hb1 hs h1 c0 c2 c4 HH H;rw[hb] at c3;clear hb;go_wp2;refine bR (.agg #[.int .i64 5,.int .i64 t.num,.string t.str]) ?_;exact Sr
 .exact Ss
theorem Uw{L:List Tok}{p:PS}(hp:p.at_<L.length)(d:L.length<=5000)(g:Nat)(w:World)(h:PW L w g p)(a:(aW L p).aC3=5):
 Calls prog 265 #[.pointer (some ⟨g,0,none⟩)] w (eT L g w (dH (dE L p).1) (dE L p).2):=by
 have f:=h.lt;have H:=aA h;have HH:=aA (fun w h=>gK hp d g w h);have b:eS L p=((3,(aW L p).num,(aW L p).str),p):=by
  unfold eS;dsimp only;rw[iN qo];rw[iN qo];rw[iN qo];rw[iP a]
 rw[nO b];unfold eT;unfold iC at HH;generalize aW L p=t at *;clear h b;have d2:(t.aC3==2)=false:=bN.2 qo;have d3:(t.aC3==3)=false:=bN.2 qo;have d4:(t.aC3==4)=false:=bN.2 qo;have d5:(t.aC3==5)=true:=bQ.2 a;clear a;have i:(0:Int)<=p.at_:=qo;have i2:(p.at_:Int)<=5000:=qo;by_cases hb:p.bad=0
 .rw[iN (fun h=>h hb)];go_enter func265,ntmps265;go_wp2_with fail;refine(HH.o _ (H.o.on (aB w _))).mono ?_;rintro e w1 ⟨rfl,hb1⟩;have HB0:=aA (aF (heap_alloc_new w (.cells fX 64)) hb1);have HB1:=aA (aC (aB w (.cells fX 64)) hb1);have h1:=H.o.on HB1.o;obtain⟨A,c,c0,c1,c2,c3,c4,hs⟩:=h1.cells;have f1:=h1.free 1;have hgl1:=h1.lt;obtain⟨⟨y0,y1,y2⟩,g0,g1,g2⟩:=cF HB0.o;have hz1:=aE HB0.o;have H1:=aA h1;clear hb1 hs h1 c0 c2 c4 HH H;rw[hb] at c3;clear hb;go_wp2;refine bR (.agg #[.int .i64 3,.int .i64 t.num,.string t.str]) ?_;exact Sr
 .exact Ss
theorem QBy{p:Prop}(h:p:=by
 refine⟨rfl,?_,?_⟩
 .exact(((((((H2.o.set qo).set qo).set qo).step (by go_num)).set qo).set qo).set qo)
 .exact dD.end (((((((HK2.o.set qo).set qo).set qo).step).set qo).set qo).set qo)):p:=h
theorem MU(w:World)(A B:Obj):((w.alloc A).alloc B).heap[w.heap.size]? =some A/\((w.alloc A).alloc B).heap[w.heap.size+1]? =some B/\w.heap.size+1<((w.alloc A).alloc B).heap.size/\Below w.heap.size w ((w.alloc A).alloc B):=rE (Below.refl _ _)
theorem Ux{L:List Tok}{p:PS}(hp:p.at_<L.length)(f:L.length<=5000)(g:Nat)(w:World)(h:PW L w g p)(m:(aW L p).aC3≠2)(n:(aW L p).aC3≠3)(o:(aW L p).aC3≠4)(r:(aW L p).aC3≠5)(i:cO L (str "true") p=true):
 Calls prog 265 #[.pointer (some ⟨g,0,none⟩)] w (eT L g w (dH (dE L p).1) (dE L p).2):=by
 have G:=h.lt;have H:=aA h;have k:=aA (fun w h=>gK hp f g w h);have d:=aA (fun w h=>oS (str "true") hp f g w h);have y:=aA (fun w h=>oS (str "false") hp f g w h);have C:=aA (fun w h=>lV hp f g w h);have E:=aA (show (dN L p).bad≠0 from lQ 5 _ qe p);have z:eS L p=((1,1,ByteArray.empty),p):=by
  unfold eS;dsimp only;rw[iN m,iN n,iN o,iN r,iP i]
 rw[nO z];have j:=aA (lI i).1;rw[i] at d;rw[iN (fun h=>h j.o)];clear i;unfold eT;unfold iC at k;rw[CK] at d;rw[yN] at y;have d2:((aW L p).aC3==2)=false:=bN.2 m;have d3:((aW L p).aC3==3)=false:=bN.2 n;have d4:((aW L p).aC3==4)=false:=bN.2 o;have d5:((aW L p).aC3==5)=false:=bN.2 r;generalize dN L p=q at *;generalize aW L p=t at *;clear h z m n o r;have N:(0:Int)<=p.at_:=qo;have i2:(p.at_:Int)<=5000:=qo;go_enter func265,ntmps265;go_wp2_with fail;refine(k.o _ (H.o.on (aB w _))).mono ?_;rintro e w1 ⟨rfl,l⟩;have v:=aA (aF (heap_alloc_new w (.cells fX 64)) l);have x:=aA (aC (aB w (.cells fX 64)) l);have K:=aE v.o;have H1:=aA (H.o.on x.o);have I:=H1.o.lt;clear l k H;have a:=aA (MU w1 (.cells (oF t) 141) (.cells #[.int .i64 0,.int .i64 t.num,.string t.str] 64));go_wp2_with fail;refine(d.o _ (H1.o.on a.o.2.2.2)).mono ?_;rintro e w2 ⟨rfl,b⟩;obtain⟨B,s,HK2,H2⟩:=dJ (aF (aF (aF v.o (aB w1 _)) (aB _ _)) b) (aF a.o.2.1 b) (show dD w.heap.size g w w2 from (aK (aC (aC x.o a.o.2.2.2) b))) ((H1.o.on a.o.2.2.2).on b);obtain⟨A,c,c0,c1,c2,c3,c4,D⟩:=H2.o.cells;have f1:=H2.o.free 1;have J:=H2.o.lt;obtain⟨⟨R,S,T⟩,g0,g1,g2⟩:=cF B.o;obtain⟨⟨O,P,Q⟩,f0,F,f2⟩:=cF s.o;have M:=aE s.o;clear b D c0 c2 c4 d y C H1 a;rw[j.o] at c3;clear j;go_wp2;refine bR (.agg #[.int .i64 1,.int .i64 1,.string ⟨#[]⟩]) ?_;exact QBy
theorem Uy{L:List Tok}{p:PS}(hp:p.at_<L.length)(k:L.length<=5000)(g:Nat)(w:World)(h:PW L w g p)(v:(aW L p).aC3≠2)(x:(aW L p).aC3≠3)(y:(aW L p).aC3≠4)(z:(aW L p).aC3≠5)(s:cO L (str "true") p=false)(l:cO L (str "false") p=true):
 Calls prog 265 #[.pointer (some ⟨g,0,none⟩)] w (eT L g w (dH (dE L p).1) (dE L p).2):=by
 have J:=h.lt;have H:=aA h;have o:=aA (fun w h=>gK hp k g w h);have j:=aA (fun w h=>oS (str "true") hp k g w h);have i:=aA (fun w h=>oS (str "false") hp k g w h);have E:=aA (fun w h=>lV hp k g w h);have G:=aA (show (dN L p).bad≠0 from lQ 5 _ qe p);have D:eS L p=((1,0,ByteArray.empty),p):=by
  unfold eS;dsimp only;rw[iN v,iN x,iN y,iN z,iN (by rw[s];decide),iP l]
 rw[nO D];have n:=aA (lI l).1;rw[l] at i;rw[s] at j;rw[iN (fun h=>h n.o)];clear l s;unfold eT;unfold iC at o;rw[CK] at j;rw[yN] at i;have d2:((aW L p).aC3==2)=false:=bN.2 v;have d3:((aW L p).aC3==3)=false:=bN.2 x;have d4:((aW L p).aC3==4)=false:=bN.2 y;have d5:((aW L p).aC3==5)=false:=bN.2 z;generalize dN L p=q at *;generalize aW L p=t at *;clear h D v x y z;have P:(0:Int)<=p.at_:=qo;have i2:(p.at_:Int)<=5000:=qo;go_enter func265,ntmps265;go_wp2_with fail;refine(o.o _ (H.o.on (aB w _))).mono ?_;rintro e w1 ⟨rfl,r⟩;have B:=aA (aF (heap_alloc_new w (.cells fX 64)) r);have C:=aA (aC (aB w (.cells fX 64)) r);have N:=aE B.o;have H1:=aA (H.o.on C.o);have K:=H1.o.lt;clear r o H;have a:=aA (MU w1 (.cells (oF t) 141) (.cells #[.int .i64 0,.int .i64 t.num,.string t.str] 64));go_wp2_with fail;refine(j.o _ (H1.o.on a.o.2.2.2)).mono ?_;rintro e w2 ⟨rfl,b⟩;obtain⟨m,f,HK2,H2⟩:=dJ (aF (aF (aF B.o (aB w1 _)) (aB _ _)) b) (aF a.o.2.1 b) (show dD w.heap.size g w w2 from (aK (aC (aC C.o a.o.2.2.2) b))) ((H1.o.on a.o.2.2.2).on b);go_wp2_with fail;refine(i.o _ H2.o).mono ?_;rintro e Q ⟨rfl,d⟩;clear b j;obtain⟨m,f,HK2,H2⟩:=dJ (aF m.o d) (aF f.o d) (HK2.o.new d) (H2.o.on d);obtain⟨A,c,c0,c1,c2,c3,c4,F⟩:=H2.o.cells;have f1:=H2.o.free 1;have M:=H2.o.lt;obtain⟨⟨U,V,W⟩,g0,g1,g2⟩:=cF m.o;obtain⟨⟨R,S,T⟩,f0,I,f2⟩:=cF f.o;have O:=aE f.o;clear d F c0 c2 c4 i E H1 a;rw[n.o] at c3;clear n;go_wp2;refine bR (.agg #[.int .i64 1,.int .i64 0,.string ⟨#[]⟩]) ?_;exact QBy
theorem Uz{L:List Tok}{p:PS}(hp:p.at_<L.length)(o:L.length<=5000)(g:Nat)(w:World)(h:PW L w g p)(z:(aW L p).aC3≠2)(B:(aW L p).aC3≠3)(b:(aW L p).aC3≠4)(C:(aW L p).aC3≠5)(y:cO L (str "true") p=false)(x:cO L (str "false") p=false):
 Calls prog 265 #[.pointer (some ⟨g,0,none⟩)] w (eT L g w (dH (dE L p).1) (dE L p).2):=by
 have M:=h.lt;have H:=aA h;have r:=aA (fun w h=>gK hp o g w h);have n:=aA (fun w h=>oS (str "true") hp o g w h);have m:=aA (fun w h=>oS (str "false") hp o g w h);have F:=aA (fun w h=>lV hp o g w h);have s:=aA (show (dN L p).bad≠0 from lQ 5 _ qe p);have G:eS L p=((0,(aW L p).num,(aW L p).str),dN L p):=by
  unfold eS;dsimp only;rw[iN z,iN B,iN b,iN C,iN (by rw[y];decide),iN (by rw[x];decide)]
 rw[nO G];rw[x] at m;rw[y] at n;rw[iP s.o];clear x y;unfold eT;unfold iC at r;rw[CK] at n;rw[yN] at m;have d2:((aW L p).aC3==2)=false:=bN.2 z;have d3:((aW L p).aC3==3)=false:=bN.2 B;have d4:((aW L p).aC3==4)=false:=bN.2 b;have d5:((aW L p).aC3==5)=false:=bN.2 C;generalize dN L p=q at *;generalize aW L p=t at *;clear h G z B b C;have R:(0:Int)<=p.at_:=qo;have i2:(p.at_:Int)<=5000:=qo;go_enter func265,ntmps265;go_wp2_with fail;refine(r.o _ (H.o.on (aB w _))).mono ?_;rintro e w1 ⟨rfl,v⟩;have D:=aA (aF (heap_alloc_new w (.cells fX 64)) v);have E:=aA (aC (aB w (.cells fX 64)) v);have P:=aE D.o;have H1:=aA (H.o.on E.o);have N:=H1.o.lt;clear v r H;have j:=aA (MU w1 (.cells (oF t) 141) (.cells #[.int .i64 0,.int .i64 t.num,.string t.str] 64));go_wp2_with fail;refine(n.o _ (H1.o.on j.o.2.2.2)).mono ?_;rintro e w2 ⟨rfl,k⟩;obtain⟨f,d,i,a⟩:=dJ (aF (aF (aF D.o (aB w1 _)) (aB _ _)) k) (aF j.o.2.1 k) (show dD w.heap.size g w w2 from (aK (aC (aC E.o j.o.2.2.2) k))) ((H1.o.on j.o.2.2.2).on k);go_wp2_with fail;refine(m.o _ a.o).mono ?_;rintro e S ⟨rfl,l⟩;clear k n;obtain⟨f,d,i,a⟩:=dJ (aF f.o l) (aF d.o l) (i.o.new l) (a.o.on l);go_wp2_with fail;refine(F.o _ a.o).mono ?_;rintro e T ⟨rfl,h4,b⟩;clear l m F;obtain⟨f,d,i,a⟩:=dJ (aG f.o b qo) (aG d.o b qo) (i.o.aDk b) h4;obtain⟨A,c,c0,c1,c2,c3,c4,I⟩:=a.o.cells;have f1:=a.o.free 1;have O:=a.o.lt;obtain⟨⟨X,Y,Z⟩,g0,g1,g2⟩:=cF f.o;obtain⟨⟨U,V,W⟩,f0,K,f2⟩:=cF d.o;have Q:=aE d.o;have J:(q.bad != 0)=true:=bne_iff_ne.2 s.o;clear I c0 c1 c2 c4 H1 j s h4 b;go_wp2
 refine bR (.agg #[.int .i64 0,.int .i64 0,.string ⟨#[]⟩]) ?_;refine⟨rfl,?_,?_⟩
 .exact((a.o.set qo).set qo).set qo
 .exact dD.end (((i.o.set qo).set qo).set qo)
theorem rX{L:List Tok}{p:PS}(T:Toks L)(hp:p.at_<L.length)(g:Nat)(w:World)(h:PW L w g p):
 Calls prog 265 #[.pointer (some ⟨g,0,none⟩)] w (eT L g w (dH (dE L p).1) (dE L p).2):=by
 have a:=T.len;by_cases b:(aW L p).aC3=2
 .exact Ut hp a g w h b
 by_cases c:(aW L p).aC3=3
 .exact Uu hp a g w h c
 by_cases d:(aW L p).aC3=4
 .exact Uv hp a g w h d
 by_cases e:(aW L p).aC3=5
 .exact Uw hp a g w h e
 cases f:cO L (str "true") p
 .cases i:cO L (str "false") p
  .exact Uz hp a g w h b c d e f i
  .exact Uy hp a g w h b c d e f i
 .exact Ux hp a g w h b c d e f
end Go.Proofs.YtkglnboglppgnaaGreatDoor
