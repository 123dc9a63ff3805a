/- Lemmas. -/
import Derived.Test.YthcgdgkpgdjahaaGreatDoorMak
namespace Go.Proofs.YthcgdgkpgdjahaaGreatDoor
open Go.RowKit
set_option linter.unusedVariables false
set_option linter.unusedSimpArgs false
set_option maxHeartbeats 16000000
set_option maxRecDepth 20000
theorem QCE{p:Prop}(h:p:=by
 cases hq:a.ownBlock with
 |none=>exact .inl rfl
 |some q=>exact .inr (fun e=>qD (ha q hq) (hb q e.symm))):p:=h
def fD{β:Type}(R:Rep β)(s:Nat)(e:TypeId)(base:Nat)(F:nP)(w:World)(ok:nP)(o:Option Value)(v:Value)(l:List β):Prop:=match o with
 |none=>aH R w F v l/\∀b,F b->ok b/\b<w.heap.size
 |some u=>v=u/\aM R s e w base (fun _=>False) u l/\(∀b,u.ownBlock=some b->ok b)/\l.length<=1000000
section
variable {β:Type} {R:Rep β} {s:Nat} {e:TypeId} {base:Nat} {N:nP} {w w':World} {ok ok':nP} {o:Option Value} {v:Value} {l:List β}
theorem fD.sl(F:Firm R s)(h:fD R s e base N w ok o v l):aH R w ok v l:=by
 cases o with
 |none=>exact aH.more F h.1 (fun b a=>(h.2 b a).1)
 |some u=>
  obtain⟨rfl,h1,h2,h3⟩:=h;exact aH.more F (h1.aEK F h3) (fun b a=>a.elim (fun h=>h.1.elim) (fun h=>h2 b h.symm))
theorem fD.aDW(F:Firm R s)(h:fD R s e base N w ok o v l)(c:aN ok w w'):fD R s e base N w' ok o v l:=by
 cases o with
 |none=>exact⟨aH.aDW F h.1 (c.mono (fun b _ a=>(h.2 b a).1)),fun b a=>⟨(h.2 b a).1,lL (h.2 b a).2 c.size⟩⟩
 |some u=>
  obtain⟨rfl,h1,h2,h3⟩:=h;exact⟨rfl,h1.stays F c h2 (fun b a _=>a.elim),h2,h3⟩
theorem fD.more(F:Firm R s)(h:fD R s e base N w ok o v l)(hm:∀b,ok b->ok' b):fD R s e base N w ok' o v l:=by
 cases o with
 |none=>exact⟨h.1,fun b a=>⟨hm b (h.2 b a).1,(h.2 b a).2⟩⟩
 |some u=>
  obtain⟨rfl,h1,h2,h3⟩:=h;exact⟨rfl,h1,fun b a=>hm b (h2 b a),h3⟩
theorem fD.inb(F:Firm R s)(h:fD R s e base N w ok o v l):fD R s e base N w (fun b=>ok b/\b<w.heap.size) o v l:=by
 cases o with
 |none=>exact⟨h.1,fun b a=>⟨h.2 b a,(h.2 b a).2⟩⟩
 |some u=>
  obtain⟨rfl,h1,h2,h3⟩:=h;exact⟨rfl,h1,fun b a=>⟨h2 b a,(h1.lt b a).2⟩,h3⟩
theorem fD.slice(F:Firm R s)(h:fD R s e base N w ok o v l):∃a c,v=.slice a l.length c/\l.length<=1000000:=(h.sl F).slice
end
abbrev Mix:=cB×Option Value×Option Value
def aDo(base:Nat)(N:nP)(w:World)(ok:nP)(x:Mix)(a b:Value):Prop:=x.1.id.size<=cQ/\x.1.aEg.size<=cQ/\x.1.aD9.size<=cQ/\fD lO 4 185 base N w ok x.2.1 a x.1.aDT/\fD nB 3 173 base N w ok x.2.2 b x.1.log
def eC(base:Nat)(N:nP):Rep Mix:=fun w ok cs x=>∃a b,cs=[.string x.1.id,.string x.1.aEg,.string x.1.aD9,a,b]/\aDo base N w ok x a b
theorem Bk{β:Type}{R:Rep β}{s:Nat}{e:TypeId}{base:Nat}{N:nP}{w:World}{ok:nP}{o:Option Value}{v:Value}{l:List β}(F:Firm R s)(h:fD R s e base N w ok o v l):v.oneCell'=true:=lD (h.sl F)
theorem dP(base:Nat)(N:nP):Firm (eC base N) 5:={
 aDW:=fun⟨a,b,e,h⟩ d=>⟨a,b,e,h.1,h.2.1,h.2.2.1,h.2.2.2.1.aDW bS d,h.2.2.2.2.aDW cE d⟩
 more:=fun⟨a,b,e,h⟩ f=>⟨a,b,e,h.1,h.2.1,h.2.2.1,h.2.2.2.1.more bS f,h.2.2.2.2.more cE f⟩
 len:=fun⟨a,b,e,h⟩=>by rw[e];rfl
 one:=fun⟨a,b,e,h⟩=>by
  intro v c;rw[e] at c;simp only[List.mem_cons,List.not_mem_nil,or_false] at c
  rcases c with rfl|rfl|rfl|rfl|rfl
  .rfl
  .rfl
  .rfl
  .exact Bk bS h.2.2.2.1
  .exact Bk cE h.2.2.2.2
 inb:=fun⟨a,b,e,h⟩=>⟨a,b,e,h.1,h.2.1,h.2.2.1,h.2.2.2.1.inb bS,h.2.2.2.2.inb cE⟩}
theorem Wg{base:Nat}{N:nP}{w:World}{ok:nP}{cs:List Value}{x:Mix}(h:eC base N w ok cs x):qN w ok cs x.1:=by
 obtain⟨a,b,e,h1,h2,h3,h4,h5⟩:=h;exact⟨a,b,e,h1,h2,h3,h4.sl bS,h5.sl cE⟩
theorem PZ{base:Nat}{N:nP}{w:World}{ok:nP}:∀{L:List Mix} {cs:List Value},aW (eC base N w ok) cs L->aW (qN w ok) cs (L.map Prod.fst)
 | [],_,h=>h
 |x::L,cs,⟨r,t,e,hr,ht⟩=>⟨r,t,e,Wg hr,PZ ht⟩
theorem QA{base:Nat}{N:nP}{w:World}{ok:nP}(a:∀b,N b->ok b/\b<w.heap.size):∀{l:List cB} {cs:List Value},aW (qN w N) cs l->aW (eC base N w ok) cs (l.map (fun c=>((c,none,none):Mix)))
 | [],_,h=>h
 |c::l,cs,⟨r,t,e,⟨vf,vl,e2,h⟩,ht⟩=>⟨r,t,e,⟨vf,vl,e2,h.1,h.2.1,h.2.2.1,⟨h.2.2.2.1,a⟩,⟨h.2.2.2.2,a⟩⟩,QA a ht⟩
theorem QB{e:TypeId}{w:World}{base b2:Nat}{ok:nP}{v:Value}{l:List cB}(h:aM qN 5 e w base ok v l)(d:∀b,ok b->b<w.heap.size/\some b≠v.ownBlock):aM (eC b2 ok) 5 e w base ok v (l.map (fun c=>((c,none,none):Mix))):=by
 obtain⟨cs,h1,h2⟩:=h;exact⟨cs,by rw[List.length_map];exact h1,QA (fun b a=>⟨⟨a,(d b a).1,(d b a).2⟩,(d b a).1⟩) (h2.mono fun r x f=>dW.more f fun b a=>a.1)⟩
theorem Wh{e:TypeId}{w:World}{base b2:Nat}{N:nP}{ok:nP}{v:Value}{L:List Mix}(h:aM (eC b2 N) 5 e w base ok v L):aM qN 5 e w base ok v (L.map Prod.fst):=by
 obtain⟨cs,h1,h2⟩:=h;exact⟨cs,by rw[List.length_map];exact h1,PZ h2⟩
def pV(L:List Mix):Prop:=∀i j (c:i<L.length) (hj:j<L.length),i≠j->(∀a b,L[i].2.1=some a->L[j].2.1=some b->a.ownBlock=none\/a.ownBlock≠b.ownBlock)/\(∀a b,L[i].2.2=some a->L[j].2.2=some b->a.ownBlock=none\/a.ownBlock≠b.ownBlock)
theorem GX(l:List cB):pV (l.map (fun c=>((c,none,none):Mix))):=by
 intro i j d hj _;rw[List.getElem_map,List.getElem_map];exact⟨(fun a b h=>by cases h),(fun a b h=>by cases h)⟩
theorem QC{L:List Mix}(h:pV L){k:Nat}(o:k<L.length){x:Mix}{n:Nat}(f:∀j (hj:j<L.length),(∀a b,L[j].2.1=some a->a.ownBlock=some b->b<n)/\(∀a b,L[j].2.2=some a->a.ownBlock=some b->b<n))
 (h1:x.2.1=L[k].2.1\/∀a b,x.2.1=some a->a.ownBlock=some b->n<=b)(h2:x.2.2=L[k].2.2\/∀a b,x.2.2=some a->a.ownBlock=some b->n<=b):pV (L.set k x):=by
 have one:∀(a b:Value),(∀q,a.ownBlock=some q->n<=q)->(∀q,b.ownBlock=some q->q<n)->a.ownBlock=none\/a.ownBlock≠b.ownBlock:=fun a b ha hb=>by
  exact QCE
 have two:∀(a b:Value),(∀q,a.ownBlock=some q->q<n)->(∀q,b.ownBlock=some q->n<=q)->a.ownBlock=none\/a.ownBlock≠b.ownBlock:=fun a b ha hb=>by
  exact QCE
 intro i j c hj g;rw[List.length_set] at c hj;rw[List.getElem_set,List.getElem_set];by_cases l:k=i
 .subst l;rw[iP rfl,iN g];have d:=h k j o hj g;refine⟨?_,?_⟩
  .rcases h1 with h1|h1
   .rw[h1];exact d.1
   .exact fun a b ha hb=>one a b (fun q hq=>h1 a q ha hq) (fun q hq=>(f j hj).1 b q hb hq)
  .rcases h2 with h2|h2
   .rw[h2];exact d.2
   .exact fun a b ha hb=>one a b (fun q hq=>h2 a q ha hq) (fun q hq=>(f j hj).2 b q hb hq)
 .rw[iN l];by_cases m:k=j
  .subst m;rw[iP rfl];have d:=h i k c o g;refine⟨?_,?_⟩
   .rcases h1 with h1|h1
    .rw[h1];exact d.1
    .exact fun a b ha hb=>two a b (fun q hq=>(f i c).1 a q ha hq) (fun q hq=>h1 b q hb hq)
   .rcases h2 with h2|h2
    .rw[h2];exact d.2
    .exact fun a b ha hb=>two a b (fun q hq=>(f i c).2 a q ha hq) (fun q hq=>h2 b q hb hq)
  .rw[iN m];exact h i j c hj g
theorem LC{e:TypeId}{w:World}{base b2:Nat}{N:nP}{ok:nP}{v:Value}{L:List Mix}(h:aM (eC b2 N) 5 e w base ok v L):∀j (hj:j<L.length),(∀a b,L[j].2.1=some a->a.ownBlock=some b->b<w.heap.size)/\(∀a b,L[j].2.2=some a->a.ownBlock=some b->b<w.heap.size):=by
 intro j hj;obtain⟨cs,_,h2⟩:=h;obtain⟨r,⟨f,g,_,h3⟩,_⟩:=h2.at (fun r x d=>(dP b2 N).len d) hj;refine⟨fun a b ha c=> ?_,fun a b ha c=> ?_⟩
 .have h4:=h3.2.2.2.1;rw[ha] at h4;exact(h4.2.1.lt b c).2
 .have h4:=h3.2.2.2.2;rw[ha] at h4;exact(h4.2.1.lt b c).2
theorem aW.aEu{α:Type}{R b:List Value->α->Prop}:∀{l:List α} {cs:List Value},(∀i (c:i<l.length) r,R r l[i]->b r l[i])->aW R cs l->aW b cs l
 | [],_,_,hc=>hc
 |x::l,_,h,⟨r,t,e,a,ht⟩=>⟨r,t,e,h 0 qs r a,aW.aEu (fun i c r a=>h (i+1) (by simpa using c) r a) ht⟩
theorem aW.putAt{α:Type}{R d:List Value->α->Prop}{s:Nat}(f:∀r x,R r x->r.length=s){j:Nat}(hj:j<s){x:Value}{y:α}:∀{l:List α} {cs:List Value} {k:Nat},aW R cs l->(hk:k<l.length)->(∀i (c:i<l.length),i≠k->∀r,R r l[i]->d r l[i])->(∀r,R r l[k]->d (r.set j x) y)->aW d (cs.set (k * s+j) x) (l.set k y)
 | [],_,_,_,hk,_,_=>absurd hk qs
 |a::l,cs,0,⟨r,t,e,b,ht⟩,hk,ho,hy=>by
  have g:=f _ _ b;rw[e,Nat.zero_mul,Nat.zero_add,List.set_append_left _ _ qo];exact⟨_,_,rfl,hy r b,aW.aEu (fun i c r b=>ho (i+1) (by simpa using c) qo r b) ht⟩
 |a::l,cs,k+1,⟨r,t,e,b,ht⟩,hk,ho,hy=>by
  have g:=f _ _ b;have h1:(k+1) * s=k * s+s:=by rw[Nat.add_mul,Nat.one_mul]
  rw[e,List.set_append_right _ _ qo,show (k+1) * s+j - r.length=k * s+j by omega];exact⟨r,_,rfl,ho 0 qs qo r b,aW.putAt f hj ht (by simpa using hk) (fun i c m r b=>ho (i+1) (by simpa using c) qo r b) hy⟩
def bP(o:Option Value):Option Nat:=o.bind Value.ownBlock
theorem cN{o:Option Value}{b:Nat}:bP o=some b↔∃a,o=some a/\a.ownBlock=some b:=by
 cases o with
 |none=>simp[bP]
 |some a=>simp[bP]
theorem DQ{L:List Mix}:pV L↔∀i j (c:i<L.length) (hj:j<L.length),i≠j->(∀q,bP L[i].2.1=some q->bP L[j].2.1≠some q)/\(∀q,bP L[i].2.2=some q->bP L[j].2.2≠some q):=by
 have key:∀(o p:Option Value),(∀a b,o=some a->p=some b->a.ownBlock=none\/a.ownBlock≠b.ownBlock)↔(∀q,bP o=some q->bP p≠some q):=fun o p=>by
  constructor
  .intro h q k hp;obtain⟨a,ha,f⟩:=cN.1 k;obtain⟨b,g,l⟩:=cN.1 hp
   rcases h a b ha g with h|h
   .rw[h] at f;cases f
   .exact h (f.trans l.symm)
  .intro h a b ha g
   cases k:a.ownBlock with
   |none=>exact .inl rfl
   |some q=>exact .inr (fun e=>h q (cN.2 ⟨a,ha,k⟩) (cN.2 ⟨b,g,e.symm⟩))
 unfold pV;constructor
 .intro h i j c hj d;exact⟨(key _ _).1 (h i j c hj d).1,(key _ _).1 (h i j c hj d).2⟩
 .intro h i j c hj d;exact⟨(key _ _).2 (h i j c hj d).1,(key _ _).2 (h i j c hj d).2⟩
theorem xK{L:List Mix}(h:pV L){k:Nat}(m:k<L.length){x:Mix}{n:Nat}(e:∀j (hj:j<L.length),(∀b,bP L[j].2.1=some b->b<n)/\(∀b,bP L[j].2.2=some b->b<n))
 (h1:∀b,bP x.2.1=some b->bP L[k].2.1=some b\/n<=b)(h2:∀b,bP x.2.2=some b->bP L[k].2.2=some b\/n<=b):pV (L.set k x):=by
 rw[DQ] at h ⊢;intro i j c hj f;rw[List.length_set] at c hj;rw[List.getElem_set,List.getElem_set];by_cases g:k=i
 .subst g;rw[iP rfl,iN f];have d:=h k j m hj f;refine⟨fun q a hp=> ?_,fun q a hp=> ?_⟩
  .rcases h1 q a with h3|h3
   .exact d.1 q h3 hp
   .have:=(e j hj).1 q hp;omega
  .rcases h2 q a with h3|h3
   .exact d.2 q h3 hp
   .have:=(e j hj).2 q hp;omega
 .rw[iN g];by_cases l:k=j
  .subst l;rw[iP rfl];have d:=h i k c m f;refine⟨fun q a hp=> ?_,fun q a hp=> ?_⟩
   .rcases h1 q hp with h3|h3
    .exact d.1 q a h3
    .have:=(e i c).1 q a;omega
   .rcases h2 q hp with h3|h3
    .exact d.2 q a h3
    .have:=(e i c).2 q a;omega
  .rw[iN l];exact h i j c hj f
theorem Jq{L:List Mix}(h:pV L){k:Nat}{x:Mix}{n:Nat}(l:∀j (hj:j<L.length),(∀b,bP L[j].2.1=some b->b<n)/\(∀b,bP L[j].2.2=some b->b<n))
 (h1:∀b,bP x.2.1=some b->n<=b)(h2:∀b,bP x.2.2=some b->n<=b):pV (L.take k++[x]++L.drop k):=by
 rw[DQ] at h ⊢;have get:∀i (f:i<(L.take k++[x]++L.drop k).length),(L.take k++[x]++L.drop k)[i]=x/\i=min k L.length\/∃j,∃hj:j<L.length,(L.take k++[x]++L.drop k)[i]=L[j]/\(i<min k L.length/\j=i\/min k L.length<i/\j+1=i):=by
  intro i f;have d:=f;simp only[aL,List.length_take,List.length_cons,List.length_nil,List.length_drop] at d
  rcases Nat.lt_trichotomy i (min k L.length) with h3|h3|h3
  .refine .inr ⟨i,qo,?_,.inl ⟨h3,rfl⟩⟩;rw[List.getElem_append_left (by simp;omega),List.getElem_append_left (by simp;omega),List.getElem_take]
  .refine .inl ⟨?_,h3⟩;rw[List.getElem_append_left (by simp;omega),List.getElem_append_right (by simp;omega)];simp
  .refine .inr ⟨i - 1,qo,?_,.inr ⟨h3,qo⟩⟩;rw[List.getElem_append_right (by simp;omega),List.getElem_drop]
   congr 1
   simp only[aL,List.length_take,List.length_cons,List.length_nil];omega
 intro i j f hj s
 rcases get i f with ⟨e,r⟩|⟨o,d,e,r⟩
 .rcases get j hj with ⟨c,p⟩|⟨m,g,c,p⟩
  .omega
  .rw[e,c];refine⟨fun q a hp=> ?_,fun q a hp=> ?_⟩
   .have:=h1 q a;have:=(l m g).1 q hp;omega
   .have:=h2 q a;have:=(l m g).2 q hp;omega
 .rcases get j hj with ⟨c,p⟩|⟨m,g,c,p⟩
  .rw[e,c];refine⟨fun q a hp=> ?_,fun q a hp=> ?_⟩
   .have:=h1 q hp;have:=(l o d).1 q a;omega
   .have:=h2 q hp;have:=(l o d).2 q a;omega
  .rw[e,c];exact h o m d g qo
section
variable {β:Type} {R:Rep β} {s:Nat} {e:TypeId} {base b2:Nat} {N N':nP} {w w':World} {ok ok' q:nP} {o:Option Value} {v:Value} {l:List β}
theorem fD.aEr(F:Firm R s)(h:fD R s e base N w ok o v l)(c:aN q w w')(d:∀b,N b->q b)(hu:∀b,bP o=some b->q b)(hm:∀b,ok b->b<w.heap.size->ok' b):fD R s e base N w' ok' o v l:=by
 cases o with
 |none=>exact⟨aH.aDW F h.1 (c.mono (fun b _ a=>d b a)),fun b a=>⟨hm b (h.2 b a).1 (h.2 b a).2,lL (h.2 b a).2 c.size⟩⟩
 |some u=>
  obtain⟨rfl,h1,h2,h3⟩:=h;exact⟨rfl,h1.stays F c hu (fun b a _=>a.elim),fun b a=>hm b (h2 b a) (h1.lt b a).2,h3⟩
theorem fD.wider(F:Firm R s)(h:fD R s e base N w ok o v l)(c:b2<=base)(a:∀b,N b->N' b)(d:∀b,N' b->ok b/\b<w.heap.size):fD R s e b2 N' w ok o v l:=by
 cases o with
 |none=>exact⟨aH.more F h.1 a,d⟩
 |some u=>
  obtain⟨rfl,h1,h2,h3⟩:=h;exact⟨rfl,h1.less c,h2,h3⟩
end
section
variable {w w':World} {base b2:Nat} {N N' q:nP} {ok ok':nP} {e:TypeId} {g n c k:Nat} {r:List Value} {x:Mix}
theorem AI(h:eC base N w ok r x)(c:aN q w w')(a:∀b,N b->q b)(h1:∀b,bP x.2.1=some b->q b)(h2:∀b,bP x.2.2=some b->q b)(hm:∀b,ok b->b<w.heap.size->ok' b):eC base N w' ok' r x:=by
 obtain⟨j,k,e,d,f,g,i,p5⟩:=h;exact⟨j,k,e,d,f,g,i.aEr bS c a h1 hm,p5.aEr cE c a h2 hm⟩
theorem QD(h:eC base N w ok r x)(c:b2<=base)(a:∀b,N b->N' b)(d:∀b,N' b->ok b/\b<w.heap.size):eC b2 N' w ok r x:=by
 obtain⟨k,l,e,f,g,i,j,p5⟩:=h;exact⟨k,l,e,f,g,i,j.wider bS c a d,p5.wider cE c a d⟩
theorem NS{L:List Mix}(h:aM (eC b2 N) 5 e w base ok (.slice (some ⟨g,0,none⟩) n c) L)(C:k<L.length){j:Nat}(hj:j<5){v:Value}{y:Mix}(m:aN q w w')(B:q g)(A:∀b,N b->q b)
 (p:∀i (l:i<L.length),i≠k->(∀b,bP L[i].2.1=some b->q b)/\(∀b,bP L[i].2.2=some b->q b))
 (E:∀r,eC b2 N w (fun b=>ok b/\b<w.heap.size/\b≠g) r L[k]->eC b2 N w' (fun b=>ok b/\b<w'.heap.size/\b≠g) (r.set j v) y):
 aM (eC b2 N) 5 e (w'.setCell ⟨g,k * 5+j,none⟩ v) base ok (.slice (some ⟨g,0,none⟩) n c) (L.set k y):=by
 obtain⟨cs,h1,h2⟩:=h;have t:=lY h1 m (fun b a=>by injection a with a;exact a▸B);have D:n=L.length:=by
  rcases h1.2 with ⟨f,_⟩|⟨_,_,_,f,_⟩
  .cases f
  .injection f
 subst D;refine⟨cs.set (k * 5+j) v,by rw[List.length_set];exact UZ t,?_⟩;have F:∀b,ok b/\b<w'.heap.size/\b≠g->ok b/\b<(w'.setCell ⟨g,k * 5+j,none⟩ v).heap.size/\some b≠(Value.slice (some ⟨g,0,none⟩) L.length c).ownBlock:=fun b a=>⟨a.1,by rw[jT];exact a.2.1,fun e=>a.2.2 (by injection e)⟩
 have s:∀r z,eC b2 N w' (fun b=>ok b/\b<w'.heap.size/\b≠g) r z->eC b2 N (w'.setCell ⟨g,k * 5+j,none⟩ v) (fun b=>ok b/\b<(w'.setCell ⟨g,k * 5+j,none⟩ v).heap.size/\some b≠(Value.slice (some ⟨g,0,none⟩) L.length c).ownBlock) r z:=fun r z d=>
  (dP _ _).more ((dP _ _).aDW d (fI (fun h=>h.2.2 rfl))) F
 refine aW.putAt (fun r x d=>(dP b2 N).len d) hj h2 C (fun i l o r d=> ?_) (fun r d=> ?_)
 .exact s _ _ (AI d m A (p i l o).1 (p i l o).2 (fun b a _=>⟨a.1,lL a.2.1 m.size,fun e=>a.2.2 (by rw[e];rfl)⟩))
 .exact s _ _ (E r ((dP _ _).more d fun b a=>⟨a.1,a.2.1,fun e=>a.2.2 (by rw[e];rfl)⟩))
theorem Qg{L:List Mix}{v:Value}(h:aM (eC b2 N) 5 e w base ok v L)(m:aN q w w')(s:∀b,v.ownBlock=some b->q b){k:Nat}(f:k<L.length){y:Mix}(p:∀b,N b->q b)
 (n:∀i (c:i<L.length),i≠k->(∀b,bP L[i].2.1=some b->q b)/\(∀b,bP L[i].2.2=some b->q b))
 (x:∀r,eC b2 N w (fun b=>ok b/\b<w.heap.size/\some b≠v.ownBlock) r L[k]->eC b2 N w' (fun b=>ok b/\b<w'.heap.size/\some b≠v.ownBlock) r y):
 aM (eC b2 N) 5 e w' base ok v (L.set k y):=by
 obtain⟨cs,h1,h2⟩:=h;refine⟨cs,by rw[List.length_set];exact lY h1 m s,?_⟩;have key:∀{l:List Mix} {cs:List Value} {k:Nat} (f:k<l.length),aW (eC b2 N w (fun b=>ok b/\b<w.heap.size/\some b≠v.ownBlock)) cs l->
  (∀i (c:i<l.length),i≠k->∀r,eC b2 N w (fun b=>ok b/\b<w.heap.size/\some b≠v.ownBlock) r l[i]->eC b2 N w' (fun b=>ok b/\b<w'.heap.size/\some b≠v.ownBlock) r l[i])->
  (∀r,eC b2 N w (fun b=>ok b/\b<w.heap.size/\some b≠v.ownBlock) r l[k]->eC b2 N w' (fun b=>ok b/\b<w'.heap.size/\some b≠v.ownBlock) r y)->aW (eC b2 N w' (fun b=>ok b/\b<w'.heap.size/\some b≠v.ownBlock)) cs (l.set k y):=by
  intro l
  induction l with
  |nil=>intro cs k f;exact absurd f qs
  |cons a l z=>
   intro cs k f ⟨r,t,e,d,o⟩ h1 h2
   cases k with
   |zero=>exact⟨r,t,e,h2 r d,aW.aEu (fun i c r d=>h1 (i+1) (by simpa using c) qo r d) o⟩
   |succ k=>exact⟨r,t,e,h1 0 qs qo r d,z (by simpa using f) o (fun i c j r d=>h1 (i+1) (by simpa using c) qo r d) h2⟩
 exact key f h2 (fun i c j r d=>AI d m p (n i c j).1 (n i c j).2 (fun b g _=>⟨g.1,lL g.2.1 m.size,g.2.2⟩)) x
theorem yT{L:List Mix}{v:Value}(h:aM (eC b2 N) 5 e w base ok v L)(d:aN q w w')(j:∀b,v.ownBlock=some b->q b)(g:∀b,N b->q b)
 (f:∀i (c:i<L.length),(∀b,bP L[i].2.1=some b->q b)/\(∀b,bP L[i].2.2=some b->q b)):aM (eC b2 N) 5 e w' base ok v L:=by
 obtain⟨cs,h1,h2⟩:=h;exact⟨cs,lY h1 d j,aW.aEu (fun i c r k=>AI k d g (f i c).1 (f i c).2 (fun b a _=>⟨a.1,lL a.2.1 d.size,a.2.2⟩)) h2⟩
theorem kO{L:List Mix}{v:Value}(h:aM (eC b2 N) 5 e w base ok v L){k:Nat}(c:k<L.length):(∀u,L[k].2.1=some u->aM lO 4 185 w b2 (fun _=>False) u L[k].1.aDT/\(∀b,u.ownBlock=some b->some b≠v.ownBlock)/\L[k].1.aDT.length<=1000000)/\(∀u,L[k].2.2=some u->aM nB 3 173 w b2 (fun _=>False) u L[k].1.log/\(∀b,u.ownBlock=some b->some b≠v.ownBlock)/\L[k].1.log.length<=1000000):=by
 obtain⟨cs,_,h2⟩:=h;obtain⟨r,⟨f,g,_,h3⟩,_⟩:=h2.at (fun r x d=>(dP b2 N).len d) c;refine⟨fun u hu=> ?_,fun u hu=> ?_⟩
 .have h4:=h3.2.2.2.1;rw[hu] at h4;exact⟨h4.2.1,fun b a=>(h4.2.2.1 b a).2.2,h4.2.2.2⟩
 .have h4:=h3.2.2.2.2;rw[hu] at h4;exact⟨h4.2.1,fun b a=>(h4.2.2.1 b a).2.2,h4.2.2.2⟩
end
theorem QCp{p:Prop}(h:p:=by
 have h4:=(Wh h.aDO).sl (by rw[h.all];exact h1) (fun b=>K b\/base<=b) (fun b h _=>h) (fun b h _=> .inr h) dW;rw[h.all] at h4;exact h4):p:=h
theorem dS{α β:Type}{R:Rep α}{d:Rep β}{s j:Nat}{e c:TypeId}{w:World}{base f:Nat}{ok ok':nP}{v v':Value}{l:List α}{l':List β}(h:aM R s e w base ok v l)(g:aM d j c w f ok' v' l')(i:e≠c){b:Nat}(a:v.ownBlock=some b):some b≠v'.ownBlock:=fun he=>by
 rcases vX h g i with h1|h1
 .rw[h1] at a;cases a
 .exact h1 (a.trans he)
theorem FO{α:Type}{R:Rep α}{s:Nat}{e:TypeId}{w:World}{base:Nat}{ok:nP}{v:Value}{l:List α}(h:aM R s e w base ok v l):NQ v:=fun a n c e=>by
 obtain⟨cs,h1,_⟩:=h
 rcases h1.2 with ⟨h2,h3⟩|⟨g,cap,cur,h2,_,_,h3⟩
 .rw[h2] at e;injection e with _ b _;omega
 .rw[h2] at e;injection e with _ b d;omega
structure bD (K:Nat->Prop) (base:Nat) (w:World) (s:Sto) (L:List Mix) (ro:Option Value) (vc vr vn vo vt vu vk vb:Value):Prop where
 aDX:bL s.aDX
 aD0:bL s.aD0
 all:L.map Prod.fst=s.aDO
 aEf:∀j (hj:j<L.length),L[j].2.2.isSome=true
 apart:pV L
 aDO:aM (eC base K) 5 113 w base (fun b=>K b\/base<=b) vc L
 aDQ:aM tG 7 166 w base (fun _=>False) vr s.aDQ
 aDV:aM wK 3 169 w base (fun _=>False) vn s.aDV
 aD1:fD rH 2 157 base K w (fun b=>K b\/base<=b) ro vo s.aD1
 aDP:fO 3 w K s.aDP vt vu vk vb
 kept:∀b,K b->b<w.heap.size/\some b≠vc.ownBlock/\some b≠vr.ownBlock/\some b≠vn.ownBlock/\bP ro≠some b
 aEi:∀j (hj:j<L.length),(∀b,bP L[j].2.1=some b->¬K b)/\(∀b,bP L[j].2.2=some b->¬K b)
 size:base<=w.heap.size
 aEq:NQ vo
section
variable {K:nP} {base:Nat} {w w':World} {s:Sto} {L:List Mix} {ro:Option Value} {vc vr vn vo vt vu vk vb:Value}
theorem bD.len(h:bD K base w s L ro vc vr vn vo vt vu vk vb):L.length=s.aDO.length:=by rw[<-h.all,List.length_map]
theorem bD.aDU(h:bD K base w s L ro vc vr vn vo vt vu vk vb){k:Nat}(a:k<L.length):s.aDO[k]? =some L[k].1:=by
 rw[<-h.all,List.getElem?_map,gE a];rfl
theorem bD.aEv(h:bD K base w s L ro vc vr vn vo vt vu vk vb){j:Nat}(hj:j<L.length){b:Nat}(c:bP L[j].2.1=some b):∃u,L[j].2.1=some u/\u.ownBlock=some b/\aM lO 4 185 w base (fun _=>False) u L[j].1.aDT/\some b≠vc.ownBlock:=by
 obtain⟨u,hu,a⟩:=cN.1 c;have:=(kO h.aDO hj).1 u hu;exact⟨u,hu,a,this.1,this.2.1 b a⟩
theorem bD.aEw(h:bD K base w s L ro vc vr vn vo vt vu vk vb){j:Nat}(hj:j<L.length){b:Nat}(c:bP L[j].2.2=some b):∃u,L[j].2.2=some u/\u.ownBlock=some b/\aM nB 3 173 w base (fun _=>False) u L[j].1.log/\some b≠vc.ownBlock:=by
 obtain⟨u,hu,a⟩:=cN.1 c;have:=(kO h.aDO hj).2 u hu;exact⟨u,hu,a,this.1,this.2.1 b a⟩
theorem bD.lt(h:bD K base w s L ro vc vr vn vo vt vu vk vb):∀j (hj:j<L.length),(∀b,bP L[j].2.1=some b->b<w.heap.size)/\(∀b,bP L[j].2.2=some b->b<w.heap.size):=fun j hj=>
 ⟨fun b a=>by obtain⟨u,_,h2,h3,_⟩:=h.aEv hj a;exact(h3.lt b h2).2,fun b a=>by obtain⟨u,_,h2,h3,_⟩:=h.aEw hj a;exact(h3.lt b h2).2⟩
theorem bD.from(h:bD K base w s L ro vc vr vn vo vt vu vk vb):∀j (hj:j<L.length),(∀b,bP L[j].2.1=some b->base<=b)/\(∀b,bP L[j].2.2=some b->base<=b):=fun j hj=>
 ⟨fun b a=>by obtain⟨u,_,h2,h3,_⟩:=h.aEv hj a;exact(h3.lt b h2).1,fun b a=>by obtain⟨u,_,h2,h3,_⟩:=h.aEw hj a;exact(h3.lt b h2).1⟩
theorem Qh{P:nP}{ok:nP}{o:Option Value}{v:Value}{l:List xG}(h:fD rH 2 157 base P w ok o v l){b:Nat}(a:bP o=some b):∃u,u.ownBlock=some b/\aM rH 2 157 w base (fun _=>False) u l:=by
 obtain⟨u,rfl,c⟩:=cN.1 a;exact⟨u,c,h.2.1⟩
theorem bD.rol(h:bD K base w s L ro vc vr vn vo vt vu vk vb){b:Nat}(a:bP ro=some b):∃u,u.ownBlock=some b/\aM rH 2 157 w base (fun _=>False) u s.aD1:=Qh h.aD1 a
theorem bD.stays(h:bD K base w s L ro vc vr vn vo vt vu vk vb){q:nP}(c:aN q w w')(f:∀b,K b->q b)(a:∀b,base<=b->b<w.heap.size->q b):bD K base w' s L ro vc vr vn vo vt vu vk vb:={
 aDX:=h.aDX
 aD0:=h.aD0
 all:=h.all
 aEf:=h.aEf
 apart:=h.apart
 aDO:=yT h.aDO c (fun b e=>a b (h.aDO.lt b e).1 (h.aDO.lt b e).2) f (fun i d=>⟨fun b e=>a b ((h.from i d).1 b e) ((h.lt i d).1 b e),fun b e=>a b ((h.from i d).2 b e) ((h.lt i d).2 b e)⟩)
 aDQ:=h.aDQ.stays cV c (fun b e=>a b (h.aDQ.lt b e).1 (h.aDQ.lt b e).2) (fun _ h _=>h.elim)
 aDV:=h.aDV.stays eD c (fun b e=>a b (h.aDV.lt b e).1 (h.aDV.lt b e).2) (fun _ h _=>h.elim)
 aD1:=h.aD1.aEr dB c f (fun b e=>by obtain⟨u,h2,h3⟩:=h.rol e;exact a b (h3.lt b h2).1 (h3.lt b h2).2) (fun _ h _=>h)
 aDP:=h.aDP.aDW (c.mono fun b _ a=>f b a)
 kept:=fun b a=>⟨lL (h.kept b a).1 c.size,(h.kept b a).2⟩
 aEi:=h.aEi
 size:=lT h.size c.size
 aEq:=h.aEq}
theorem bD.on(h:bD K base w s L ro vc vr vn vo vt vu vk vb)(a:Below w.heap.size w w'):bD K base w' s L ro vc vr vn vo vt vu vk vb:=h.stays (aJ (ok:=fun _=>True) a) (fun _ _=>trivial) (fun _ _ _=>trivial)
theorem bD.off(h:bD K base w s L ro vc vr vn vo vt vu vk vb){g i:Nat}{x:Value}(c:¬K g)(a:g<base):bD K base (w.setCell ⟨g,i,none⟩ x) s L ro vc vr vn vo vt vu vk vb:=
 h.stays (q:=fun b=>b≠g) (aI x) (fun b a e=>c (e▸a)) (fun b h1 _ e=>by omega)
theorem bD.sto(h:bD K base w s L ro vc vr vn vo vt vu vk vb)(h1:s.aDO.length<=1000000)(h2:s.aDQ.length<=1000000)(h3:s.aDV.length<=1000000):fM w (fun b=>K b\/base<=b) s vc vr vn vo vt vu vk vb:={
 aDX:=h.aDX
 aD0:=h.aD0
 aDO:=by
  exact QCp
 aDQ:=h.aDQ.sl h2 _ (fun b h _=>h.elim) (fun b h _=> .inr h) cV
 aDV:=h.aDV.sl h3 _ (fun b h _=>h.elim) (fun b h _=> .inr h) eD
 aD1:=h.aD1.sl dB
 aDP:=h.aDP.more fun b h=> .inl h
 aEP:=⟨FO h.aDQ,FO h.aDV,h.aEq⟩}
theorem bD.far(h:bD K base w s L ro vc vr vn vo vt vu vk vb){α:Type}{R:Rep α}{n:Nat}{e:TypeId}{b2:Nat}{ok:nP}{v:Value}{l:List α}(c:aM R n e w b2 ok v l)(h1:113≠e)(h2:185≠e)(h3:173≠e):
 (∀b,vc.ownBlock=some b->some b≠v.ownBlock)/\∀j (hj:j<L.length),(∀b,bP L[j].2.1=some b->some b≠v.ownBlock)/\(∀b,bP L[j].2.2=some b->some b≠v.ownBlock):=
 ⟨fun b a=>dS h.aDO c h1 a,fun j hj=>⟨fun b a=>by obtain⟨u,_,h4,h5,_⟩:=h.aEv hj a;exact dS h5 c h2 h4,fun b a=>by obtain⟨u,_,h4,h5,_⟩:=h.aEw hj a;exact dS h5 c h3 h4⟩⟩
theorem bD.aEa(h:bD K base w s L ro vc vr vn vo vt vu vk vb){v':Value}{l':List wJ}(i:w.grownBy w' vr.ownBlock)(f:aM tG 7 166 w' base (fun _=>False) v' l')(g:∀b,v'.ownBlock=some b->vr.ownBlock=some b\/w.heap.size<=b):
 bD K base w' {s with aDQ:=l'} L ro vc v' vn vo vt vu vk vb:=by
 have c:=cX i;have d:=h.far h.aDQ qe qe qe;refine {aEq:=h.aEq,aDX:=h.aDX,aD0:=h.aD0,all:=h.all,aEf:=h.aEf,apart:=h.apart,aDO:=yT h.aDO c d.1 (fun b a=>(h.kept b a).2.2.1) d.2,aDQ:=f,aDV:=h.aDV.stays eD c (fun b a=>dS h.aDV h.aDQ qe a) (fun _ h _=>h.elim),aD1:=h.aD1.aEr dB c (fun b a=>(h.kept b a).2.2.1) (fun b e=> ?_) (fun _ h _=>h),aDP:=h.aDP.aDW (c.mono fun b _ a=>(h.kept b a).2.2.1),kept:=fun b a=> ?_,aEi:=h.aEi,size:=lT h.size c.size}
 .obtain⟨u,h2,h3⟩:=h.rol e;exact dS h3 h.aDQ qe h2
 .have h1:=h.kept b a;refine⟨lL h1.1 c.size,h1.2.1,fun e=> ?_,h1.2.2.2⟩
  rcases g b e.symm with h2|h2
  .exact h1.2.2.1 h2.symm
  .have:=h1.1;omega
theorem bD.aE1(h:bD K base w s L ro vc vr vn vo vt vu vk vb){v':Value}{l':List xY}(i:w.grownBy w' vn.ownBlock)(f:aM wK 3 169 w' base (fun _=>False) v' l')(g:∀b,v'.ownBlock=some b->vn.ownBlock=some b\/w.heap.size<=b):
 bD K base w' {s with aDV:=l'} L ro vc vr v' vo vt vu vk vb:=by
 have c:=cX i;have d:=h.far h.aDV qe qe qe;refine {aEq:=h.aEq,aDX:=h.aDX,aD0:=h.aD0,all:=h.all,aEf:=h.aEf,apart:=h.apart,aDO:=yT h.aDO c d.1 (fun b a=>(h.kept b a).2.2.2.1) d.2,aDQ:=h.aDQ.stays cV c (fun b a=>dS h.aDQ h.aDV qe a) (fun _ h _=>h.elim),aDV:=f,aD1:=h.aD1.aEr dB c (fun b a=>(h.kept b a).2.2.2.1) (fun b e=> ?_) (fun _ h _=>h),aDP:=h.aDP.aDW (c.mono fun b _ a=>(h.kept b a).2.2.2.1),kept:=fun b a=> ?_,aEi:=h.aEi,size:=lT h.size c.size}
 .obtain⟨u,h2,h3⟩:=h.rol e;exact dS h3 h.aDV qe h2
 .have h1:=h.kept b a;refine⟨lL h1.1 c.size,h1.2.1,h1.2.2.1,fun e=> ?_,h1.2.2.2.2⟩
  rcases g b e.symm with h2|h2
  .exact h1.2.2.2.1 h2.symm
  .have:=h1.1;omega
theorem bD.role(h:bD K base w s L (some vo) vc vr vn vo vt vu vk vb){v':Value}{l':List xG}(k:w.grownBy w' vo.ownBlock)(d:aM rH 2 157 w' base (fun _=>False) v' l')(j:∀b,v'.ownBlock=some b->vo.ownBlock=some b\/w.heap.size<=b)(l:l'.length<=1000000):
 bD K base w' {s with aD1:=l'} L (some v') vc vr vn v' vt vu vk vb:=by
 have c:=cX k;have f:∀b,K b->some b≠vo.ownBlock:=fun b a e=>(h.kept b a).2.2.2.2 (cN.2 ⟨vo,rfl,e.symm⟩)
 have g:aM rH 2 157 w base (fun _=>False) vo s.aD1:=h.aD1.2.1;have i:=h.far g qe qe qe;refine {aEq:=FO d,aDX:=h.aDX,aD0:=h.aD0,all:=h.all,aEf:=h.aEf,apart:=h.apart,aDO:=yT h.aDO c i.1 f i.2,aDQ:=h.aDQ.stays cV c (fun b a=>dS h.aDQ g qe a) (fun _ h _=>h.elim),aDV:=h.aDV.stays eD c (fun b a=>dS h.aDV g qe a) (fun _ h _=>h.elim),aD1:=⟨rfl,d,fun b a=> .inr (d.lt b a).1,l⟩,aDP:=h.aDP.aDW (c.mono fun b _ a=>f b a),kept:=fun b a=> ?_,aEi:=h.aEi,size:=lT h.size c.size}
 .have h1:=h.kept b a;refine⟨lL h1.1 c.size,h1.2.1,h1.2.2.1,h1.2.2.2.1,fun e=> ?_⟩;obtain⟨u,hu,m⟩:=cN.1 e;injection hu with hu;subst hu
  rcases j b m with h2|h2
  .exact f b a h2.symm
  .have:=h1.1;omega
theorem bD.aEE(h:bD K base w s L ro vc vr vn vo vt vu vk vb)(c:Below w.heap.size w w'):bD (fun b=>K b\/(w.heap.size<=b/\b<w'.heap.size)) base w' s L ro vc vr vn vo vt vu vk vb:=by
 have h0:=h.on c;have d:∀(v:Value),(∀b,v.ownBlock=some b->b<w.heap.size)->∀b,w.heap.size<=b->some b≠v.ownBlock:=fun v i b c e=>qA (i b e.symm)
 have f:=d vc (fun b c=>(h.aDO.lt b c).2);refine {aEq:=h.aEq,aDX:=h.aDX,aD0:=h.aD0,all:=h.all,aEf:=h.aEf,apart:=h.apart,aDO:= ?_,aDQ:=h0.aDQ,aDV:=h0.aDV,aD1:= ?_,aDP:=h0.aDP.more (fun b c=> .inl c),kept:=fun b a=> ?_,aEi:=fun j hj=>⟨fun b c a=> ?_,fun b c a=> ?_⟩,size:=h0.size}
 .obtain⟨cs,h1,h2⟩:=h0.aDO;exact⟨cs,h1,h2.mono fun r x g=>QD ((dP _ _).more g fun b c=>⟨c.1.elim (fun h=> .inl (.inl h)) .inr,c.2⟩) (lR _) (fun b c=> .inl c) (fun b a=>by
   rcases a with a|a
   .exact⟨⟨.inl (.inl a),(h0.kept b a).1,(h0.kept b a).2.1⟩,(h0.kept b a).1⟩
   .exact⟨⟨.inl (.inr a),a.2,f b a.1⟩,a.2⟩)⟩
 .have h1:=fD.more (ok':=fun b=>(K b\/(w.heap.size<=b/\b<w'.heap.size))\/base<=b) dB h0.aD1 (fun b c=>c.elim (fun h=> .inl (.inl h)) .inr);exact h1.wider dB (lR _) (fun b c=> .inl c) (fun b a=>⟨.inl a,a.elim (fun h=>(h0.kept b h).1) (fun h=>h.2)⟩)
 .rcases a with a|a
  .exact h0.kept b a
  .refine⟨a.2,f b a.1,d vr (fun b c=>(h.aDQ.lt b c).2) b a.1,d vn (fun b c=>(h.aDV.lt b c).2) b a.1,fun e=> ?_⟩;obtain⟨u,h2,h3⟩:=h.rol e;have:=(h3.lt b h2).2;have:=a.1;omega
 .rcases a with a|a
  .exact(h.aEi j hj).1 b c a
  .have:=(h.lt j hj).1 b c;omega
 .rcases a with a|a
  .exact(h.aEi j hj).2 b c a
  .have:=(h.lt j hj).2 b c;omega
theorem bD.wider(h:bD K base w s L ro vc vr vn vo vt vu vk vb)(a:Below w.heap.size w w'){p:Po}{e f d c:Value}(hp:fO 3 w' (fun b=>w.heap.size<=b) p e f d c){n:Int}(g:bL n):bD (fun b=>K b\/(w.heap.size<=b/\b<w'.heap.size)) base w' {s with aDP:=p,aD0:=n} L ro vc vr vn vo e f d c:=by
 have k:=h.aEE a;exact {aEq:=k.aEq,aDX:=k.aDX,aD0:=g,all:=k.all,aEf:=k.aEf,apart:=k.apart,aDO:=k.aDO,aDQ:=k.aDQ,aDV:=k.aDV,aD1:=k.aD1,aDP:=(hp.inb).more (fun b a=> .inr a),kept:=k.kept,aEi:=k.aEi,size:=k.size}
end
end Go.Proofs.YthcgdgkpgdjahaaGreatDoor
