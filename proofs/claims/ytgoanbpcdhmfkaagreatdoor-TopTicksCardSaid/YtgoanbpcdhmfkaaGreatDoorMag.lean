/- Lemmas. -/
import Derived.Test.YtgoanbpcdhmfkaaGreatDoorMaf
namespace Go.Proofs.YtgoanbpcdhmfkaaGreatDoor
open Go.RowKit
set_option linter.unusedVariables false
set_option linter.unusedSimpArgs false
set_option maxHeartbeats 16000000
open _root_.Go.Proofs.Tryz
set_option maxRecDepth 20000
theorem QCH{p:Prop}(h:p:=by
 repeat (refine Below.setCell ?_ (by first|exact lR _|exact Nat.le_succ _) _)
 first|exact HKc.o.1|exact HKa.o.1):p:=h
def Kq(w:World)(p q:Nat)(a b:Obj)(w':World):Prop:=Below w.heap.size w w'/\w'.heap[p]? =some a/\w'.heap[q]? =some b
theorem Kq.on{w w' d:World}{p q:Nat}{b c:Obj}(h:Kq w p q b c w')(a:Below w'.heap.size w' d):Kq w p q b c d:=⟨aC h.1 a,aE h.2.1 a,aE h.2.2 a⟩
theorem JZ(w:World)(a b:Obj):Kq w w.heap.size (w.heap.size+1) a b ((w.alloc a).alloc b):=
 ⟨aC (aB _ _) (aB _ _),aE (aK w a _ rfl) (aB _ _),aK _ b _ qs⟩
def TJ(c:cF)(w:World)(a b:Value)(w':World):Prop:=aM lE 4 196 w' w.heap.size (fun _=>True) a c.aCP/\aM mS 3 54 w' w.heap.size (fun _=>True) b c.log/\Below w.heap.size w w'
def xT(c:cF)(w:World)(e:Ending)(w':World):Prop:=∃a b,e=.returned (.agg #[.string c.id,.string c.aDb,.string c.aC5,a,b])/\TJ c w a b w'
theorem ZK{W w:World}{g:Nat}{a b c d e:Value}(h:Below W.heap.size W w)(f:W.heap.size<=g):Below W.heap.size W (((((w.setCell ⟨g,0,none⟩ a).setCell ⟨g,1,none⟩ b).setCell ⟨g,2,none⟩ c).setCell ⟨g,3,none⟩ d).setCell ⟨g,4,none⟩ e):=
 ((((h.setCell f _).setCell f _).setCell f _).setCell f _).setCell f _
theorem aM.aDF{α:Type}{R:Rep α}{s:Nat}{e:TypeId}{w:World}{base:Nat}{v:Value}{l:List α}{g i:Nat}{x:Value}(F:Firm R s)(h:aM R s e w base (fun _=>True) v l)(f:g<base)(a:∀w ok ok' cs x,R w ok cs x->R w ok' cs x):aM R s e (w.setCell ⟨g,i,none⟩ x) base (fun _=>True) v l:=by
 obtain⟨cs,h1,h2⟩:=h;refine⟨cs,lM h1 (aI x) (fun b c=>qA ((h1.lt b c).1)),h2.mono fun r y d=> ?_⟩;exact a _ _ _ _ _ (F.aCT (ok:=fun b=>b≠g) (a _ _ _ _ _ d) (aI x))
theorem zQ{α:Type}{enc:α->List Value}{good:α->Prop}(w:World)(ok ok':nP)(cs:List Value)(x:α)(h:mK enc good w ok cs x):mK enc good w ok' cs x:=h
theorem FQ{ok:nP}(c:cF)(B C:Value)(w:World)(h:oT w ok c B C):Calls prog 110 #[.agg #[.string c.id,.string c.aDb,.string c.aC5,B,C]] w (xT c w):=by
 obtain⟨l,m,rfl,_⟩:=h.2.2.2.1.slice;obtain⟨la,lc,rfl,_⟩:=h.2.2.2.2.slice;obtain⟨a,g⟩:∃a:Obj,a=.cells (oW c l m la lc) 52:=⟨_,rfl⟩;obtain⟨b,t⟩:∃b:Obj,b=.cells #[.string ⟨#[]⟩,.string ⟨#[]⟩,.string ⟨#[]⟩,.slice none 0 0,.slice none 0 0] 52:=⟨_,rfl⟩;obtain⟨W0,f⟩:=xE ((w.alloc a).alloc b);have k:=aA (f▸JZ w a b:Kq w w.heap.size (w.heap.size+1) a b W0);have R:=aA (show W0.heap.size=w.heap.size+1+1 by rw[f];simp);rw[g,t] at f;have F:=aA f;have i:Hid (∀w',Kq w w.heap.size (w.heap.size+1) a b w'->w'.cell? ⟨w.heap.size,0,none⟩=some (.string c.id)/\w'.cell? ⟨w.heap.size,1,none⟩=some (.string c.aDb)/\w'.cell? ⟨w.heap.size,2,none⟩=some (.string c.aC5)/\w'.cell? ⟨w.heap.size,3,none⟩=some (.slice l c.aCP.length m)/\w'.cell? ⟨w.heap.size,4,none⟩=some (.slice la c.log.length lc)):=aA (fun w' d=>by
  have h:=d.2.1;rw[g] at h;exact(dJ h).1)
 have j:Hid (∀w',Kq w w.heap.size (w.heap.size+1) a b w'->(w'.frozen? ⟨w.heap.size,3,none⟩=false/\w'.frozen? ⟨w.heap.size,4,none⟩=false/\w.heap.size<w'.heap.size)/\(w'.cell? ⟨w.heap.size+1,0,none⟩=some (.string ⟨#[]⟩)/\w'.cell? ⟨w.heap.size+1,1,none⟩=some (.string ⟨#[]⟩)/\w'.cell? ⟨w.heap.size+1,2,none⟩=some (.string ⟨#[]⟩)/\w'.cell? ⟨w.heap.size+1,3,none⟩=some (.slice none 0 0)/\w'.cell? ⟨w.heap.size+1,4,none⟩=some (.slice none 0 0))/\w'.frozen? ⟨w.heap.size+1,0,none⟩=false/\w'.frozen? ⟨w.heap.size+1,1,none⟩=false/\w'.frozen? ⟨w.heap.size+1,2,none⟩=false/\w'.frozen? ⟨w.heap.size+1,3,none⟩=false/\w'.frozen? ⟨w.heap.size+1,4,none⟩=false/\w.heap.size+1<w'.heap.size):=aA (fun w' d=>by
  have h:=d.2.2;rw[t] at h;have h1:=d.2.1;rw[g] at h1;obtain⟨q,L,M,N,O,P⟩:=dJ h;exact⟨⟨aR h1 3,aR h1 4,aD h1⟩,q,L,M,N,O,P,aD h⟩)
 have y:Hid (∀w',Kq w w.heap.size (w.heap.size+1) a b w'->w.heap.size+1+1<=w'.heap.size):=aA (fun w' d=>qA (aD d.2.2));have z:Hid (∀w',Kq w w.heap.size (w.heap.size+1) a b w'->Calls prog 169 #[.slice l c.aCP.length m] w' (bV lE 4 196 ok c.aCP w')):=aA (fun w' d=>TD _ _ _ (aH.on bP h.2.2.2.1 d.1));have A:Hid (∀w',Kq w w.heap.size (w.heap.size+1) a b w'->Calls prog 103 #[.slice la c.log.length lc] w' (bV mS 3 54 ok c.log w')):=aA (fun w' d=>CQ _ _ _ (aH.on bW h.2.2.2.2 d.1));unfold bV at z A;have I:=i.o _ k.o;have X:=j.o _ k.o;clear h f g t;go_enter func110,ntmps110;go_wp2;rw[<-F.o];have Q:=aA (Kq.on k.o (Below.refl _ _).drew);obtain⟨S,T,U,V,W⟩:=I;go_region_law
  ((first
    |(go_simp;go_at_call 169;refine(z.o _ (Hid.o (p:=Kq w w.heap.size (w.heap.size+1) a b _) (by assumption))).mono ?_;rintro e wa ⟨va,rfl,r,n⟩;obtain⟨G,H,rfl⟩:=r.slice;have v:=aA (aM.less (eI (enc:=tV) (good:=EJ) (ok':=fun _=>True) r) (y.o _ (Hid.o (p:=Kq w w.heap.size (w.heap.size+1) a b _) (by assumption))));(first|(have E:=aA (aM.on bW x.o n))|skip);have HKa:=aA (Kq.on (Hid.o (p:=Kq w w.heap.size (w.heap.size+1) a b _) (by assumption)) n);obtain⟨bb,bc,bd,be,bf⟩:=i.o _ HKa.o;obtain⟨⟨Y,af,ag⟩,⟨ah,ai,aj,ak,al⟩,an,Z,aa,ab,ad,ae⟩:=j.o _ HKa.o;clear n r)
    |(go_simp;go_at_call 103;refine(A.o _ (Hid.o (p:=Kq w w.heap.size (w.heap.size+1) a b _) (by assumption))).mono ?_;rintro e wc ⟨vc,rfl,s,o⟩;obtain⟨J,K,rfl⟩:=s.slice;have x:=aA (aM.less (eI (enc:=CG) (good:=vJ) (ok':=fun _=>True) s) (y.o _ (Hid.o (p:=Kq w w.heap.size (w.heap.size+1) a b _) (by assumption))));(first|(have D:=aA (aM.on bP v.o o))|skip);have HKc:=aA (Kq.on (Hid.o (p:=Kq w w.heap.size (w.heap.size+1) a b _) (by assumption)) o);obtain⟨bg,bh,bj,bk,bl⟩:=i.o _ HKc.o;obtain⟨⟨ao,ax,ay⟩,⟨az,a1,a6,a7,a8⟩,ba,aq,ar,au,av,aw⟩:=j.o _ HKc.o;clear o s)))
 all_goals
  go_wp2;refine bR (.agg #[.string c.id,.string c.aDb,.string c.aC5,.slice G c.aCP.length H,.slice J c.log.length K]) ?_;refine⟨_,_,rfl,aM.less ?_ (show w.heap.size<=w.heap.size+1+1 by omega),aM.less ?_ (show w.heap.size<=w.heap.size+1+1 by omega),?_⟩
  .repeat (refine aM.aDF bP ?_ (show _<w.heap.size+1+1 by first|exact Nat.lt_succ_self _|exact Nat.lt_succ_of_lt (Nat.lt_succ_self _)) zQ)
   first|exact D.o|exact v.o
  .repeat (refine aM.aDF bW ?_ (show _<w.heap.size+1+1 by first|exact Nat.lt_succ_self _|exact Nat.lt_succ_of_lt (Nat.lt_succ_self _)) zQ)
   first|exact x.o|exact E.o
  .exact QCH
theorem aX.setCell{α:Type}{R:List Value->α->Prop}{s:Nat}(c:∀r x,R r x->r.length=s){j:Nat}(hj:j<s){x:Value}{y:α}:∀{l:List α} {cs:List Value} {k:Nat} (h:aX R cs l) (b:k<l.length),(∀r,R r l[k]->R (r.set j x) y)->aX R (cs.set (k * s+j) x) (l.set k y)
 | [],_,_,_,b,_=>absurd b qs
 |a::l,cs,0,⟨r,t,e,hr,ht⟩,b,hy=>by
  have d:=c _ _ hr;rw[e,Nat.zero_mul,Nat.zero_add,List.set_append_left _ _ qo];exact⟨_,_,rfl,hy r hr,ht⟩
 |a::l,cs,k+1,⟨r,t,e,hr,ht⟩,b,hy=>by
  have d:=c _ _ hr;have h1:(k+1) * s=k * s+s:=by rw[Nat.add_mul,Nat.one_mul]
  rw[e,List.set_append_right _ _ qo,show (k+1) * s+j - r.length=k * s+j by omega];exact⟨r,_,rfl,hr,aX.setCell c hj ht (by simpa using b) hy⟩
theorem TK{w:World}{base:Nat}{e:TypeId}{s n g c i:Nat}{x:Value}{xs:List Value}(h:w.ownsRow base e s (.slice (some ⟨g,0,none⟩) n c) n xs):(w.setCell ⟨g,i,none⟩ x).ownsRow base e s (.slice (some ⟨g,0,none⟩) n c) n (xs.set i x):=by
 obtain⟨h1,h2⟩:=h;refine⟨by rw[List.length_set];exact h1,?_⟩
 rcases h2 with ⟨a,_⟩|⟨o,cap,cur,a,d,j,k,f,m,l⟩
 .cases a
 .injection a with a _ b;injection a with a;injection a with a _ _;subst a b;refine .inr ⟨g,c,cur.setIfInBounds i x,rfl,d,aG j i x,k,f,by rw[Array.size_setIfInBounds];exact m,?_⟩;rw[Array.toList_setIfInBounds,List.take_set,l]
theorem jL(w:World)(g i:Nat)(x:Value):(w.setCell ⟨g,i,none⟩ x).heap.size=w.heap.size:=by simp[World.setCell]
section
variable {α:Type} {R:Rep α} {s:Nat} {e:TypeId} {w:World} {base:Nat} {ok:nP}
theorem aM.at(F:Firm R s){a:oD}{n c:Nat}{l:List α}{k:Nat}(h:aM R s e w base ok (.slice a n c) l)(q:k<l.length)(h0:0<s):
 ∃g r,a=some ⟨g,0,none⟩/\base<=g/\g<w.heap.size/\R w (fun b=>ok b/\b<w.heap.size/\b≠g) r l[k]/\(∀j x,r[j]? =some x->w.cell? ⟨g,k * s+j,none⟩=some x)/\∀i,w.frozen? ⟨g,i,none⟩=false:=by
 obtain⟨cs,⟨h1,h2⟩,h3⟩:=h
 rcases h2 with ⟨_,y⟩|⟨g,cap,cur,f,d,m,C,B,D,t⟩
 .omega
 .injection f with f z A;subst f;obtain⟨r,o,p⟩:=h3.at (fun r x o=>F.len o) q;refine⟨g,r,rfl,d,aD m,F.more o fun b d=>⟨d.1,d.2.1,fun e=>d.2.2 (by rw[e];rfl)⟩,fun j x v=> ?_,fun i=>aR m i⟩;have h4:=p j x v;rw[<-t] at h4;have h5:cur.toList[k * s+j]? =some x:=by
   rw[List.getElem?_take] at h4;split at h4
   .exact h4
   .cases h4
  simp only[World.cell?,m];simpa using h5
theorem aM.setAt(F:Firm R s){g n c k j:Nat}{x:Value}{y:α}{l:List α}(h:aM R s e w base ok (.slice (some ⟨g,0,none⟩) n c) l)(m:k<l.length)(hj:j<s)(d:∀r,R w (fun b=>ok b/\b<w.heap.size/\b≠g) r l[k]->R w (fun b=>ok b/\b<w.heap.size/\b≠g) (r.set j x) y):
 aM R s e (w.setCell ⟨g,k * s+j,none⟩ x) base ok (.slice (some ⟨g,0,none⟩) n c) (l.set k y):=by
 obtain⟨cs,h1,h2⟩:=h;have o:n=l.length:=by
  rcases h1.2 with ⟨f,_⟩|⟨_,_,_,f,_⟩
  .cases f
  .injection f
 subst o;refine⟨cs.set (k * s+j) x,by rw[List.length_set];exact TK h1,?_⟩;have h3:=aX.setCell (fun r x d=>F.len d) hj (x:=x) (y:=y) (h2.mono fun r x d=>F.more d fun b a=>(⟨a.1,a.2.1,fun e=>a.2.2 (by rw[e];rfl)⟩:ok b/\b<w.heap.size/\b≠g)) m d;refine h3.mono fun r z d=> ?_
 have h4:=F.aCT d ((aI (g:=g) (i:=k * s+j) x).mono fun b _ a=>a.2.2);exact F.more h4 fun b a=>⟨a.1,by rw[(jL w g (k * s+j) x)];exact a.2.1,fun e=>a.2.2 (by injection e)⟩
theorem aM.off(F:Firm R s){v:Value}{l:List α}{g i:Nat}{x:Value}(h:aM R s e w base ok v l)(c:¬ok g)(f:v.ownBlock≠some g):aM R s e (w.setCell ⟨g,i,none⟩ x) base ok v l:=by
 obtain⟨cs,h1,h2⟩:=h;refine⟨cs,lM h1 (aI x) (fun b a e=>f (by rw[a,show b=g from e])),h2.mono fun r y d=> ?_⟩;have h4:=F.aCT d ((aI (g:=g) (i:=i) x).mono fun b _ a (e:b=g)=>c (e▸a.1));exact F.more h4 fun b a=>⟨a.1,by rw[(jL w g i x)];exact a.2.1,a.2.2⟩
end
theorem fF{ok:nP}{w:World}{g i:Nat}{v:Value}(h:¬ok g):aN ok w (w.setCell ⟨g,i,none⟩ v):=(aI v).mono fun k _ a (e:k=g)=>h (e▸a)
theorem aM.aDC{α:Type}{R:Rep α}{s:Nat}(F:Firm R s){e:TypeId}{w:World}{base:Nat}{ok:nP}{v:Value}{l:List α}(h:aM R s e w base ok v l)(i:l.length<=1000000):aH R w (fun b=>(ok b/\b<w.heap.size/\some b≠v.ownBlock)\/some b=v.ownBlock) v l:=by
 obtain⟨cs,h1,h2⟩:=h;obtain⟨a,c,e,_,h3,h4⟩:=lK h1;subst e;refine⟨a,c,cs,rfl,?_,h2.mono (fun r x k=>F.more k fun b f=> .inl f),i⟩;intro j;obtain⟨b,off,d,m,g⟩:=h3 j;subst d;exact⟨b,off,rfl,.inr rfl,g⟩
theorem aM.stays{α:Type}{R:Rep α}{s:Nat}(F:Firm R s){e:TypeId}{w w':World}{base:Nat}{ok ok':nP}{v:Value}{l:List α}(h:aM R s e w base ok v l)(hk:aN ok' w w')(a:∀b,v.ownBlock=some b->ok' b)(ho:∀b,ok b->b<w.heap.size->ok' b):aM R s e w' base ok v l:=by
 obtain⟨cs,h1,h2⟩:=h;refine⟨cs,lM h1 hk a,h2.mono fun r x hr=> ?_⟩;exact QCK
theorem vK{α β:Type}{R:Rep α}{b:Rep β}{s g:Nat}{e a:TypeId}{w:World}{base c:Nat}{ok ok':nP}{v v':Value}{l:List α}{l':List β}(h:aM R s e w base ok v l)(d:aM b g a w c ok' v' l')(f:e≠a):v.ownBlock=none\/v.ownBlock≠v'.ownBlock:=by
 obtain⟨_,h1,_⟩:=h;obtain⟨_,h2,_⟩:=d;exact Wf h1 h2 f
theorem wY{w w1 w2:World}{g:Nat}(h:∀i,w.frozen? ⟨g,i,none⟩=false)(b:Below w.heap.size w w1)(c:g<w.heap.size)(d:Below w1.heap.size w1 w2):∀i,w2.frozen? ⟨g,i,none⟩=false:=fun i=>
 ((World.frozen?_of_block (a:=⟨g,i,none⟩) (d.block g (lL c b.size))).trans (World.frozen?_of_block (a:=⟨g,i,none⟩) (b.block g c))).trans (h i)
section
variable {w:World} {base:Nat} {ok:nP} {e:TypeId} {g n c k:Nat}
theorem eE{α:Type}{R:Rep α}{s:Nat}(F:Firm R s){i:Nat}{x v:Value}{l:List α}(h:aH R w (fun b=>ok b/\b<w.heap.size/\b≠g) v l):aH R (w.setCell ⟨g,i,none⟩ x) (fun b=>ok b/\b<(w.setCell ⟨g,i,none⟩ x).heap.size/\b≠g) v l:=
 aH.more F (aH.aCT F h (fF (fun h=>h.2.2 rfl))) (fun b a=>⟨a.1,by rw[jL];exact a.2.1,a.2.2⟩)
theorem Xm{l:List Ru}(h:aM yG 5 e w base ok (.slice (some ⟨g,0,none⟩) n c) l)(m:k<l.length){vt vc vo:Value}(t:nZ w (fun b=>ok b/\b<w.heap.size/\b≠g) vt l[k].aCU)(o:aH JG w (fun b=>ok b/\b<w.heap.size/\b≠g) vc l[k].cond)(q:aH jU w (fun b=>ok b/\b<w.heap.size/\b≠g) vo l[k].aC0):
 aM yG 5 e (((w.setCell ⟨g,k * 5+2,none⟩ vt).setCell ⟨g,k * 5+3,none⟩ vc).setCell ⟨g,k * 5+4,none⟩ vo) base ok (.slice (some ⟨g,0,none⟩) n c) l:=by
 have h1:=aM.setAt bM (j:=2) (x:=vt) (y:=l[k]) h m qe (by rintro r ⟨a,b,d,rfl,f⟩;exact⟨vt,b,d,rfl,f.1,t,f.2.2.1,f.2.2.2⟩);rw[List.set_getElem_self] at h1;have p:=eE dQ (i:=k * 5+2) (x:=vt) o;have h2:=aM.setAt bM (j:=3) (x:=vc) (y:=l[k]) h1 m qe (by rintro r ⟨a,b,d,rfl,f⟩;exact⟨a,vc,d,rfl,f.1,f.2.1,p,f.2.2.2⟩);rw[List.set_getElem_self] at h2;have s:=eE aO (i:=k * 5+3) (x:=vc) (eE aO (i:=k * 5+2) (x:=vt) q);have h3:=aM.setAt bM (j:=4) (x:=vo) (y:=l[k]) h2 m qe (by rintro r ⟨a,b,d,rfl,f⟩;exact⟨a,b,vo,rfl,f.1,f.2.1,f.2.2.1,s⟩);rw[List.set_getElem_self] at h3;exact h3
theorem Xn{lv:Nat}{l:List Po}(h:aM (pZ (lv+1)) 7 e w base ok (.slice (some ⟨g,0,none⟩) n c) l)(o:k<l.length){vt vr vk vo:Value}(hp:fM lv w (fun b=>ok b/\b<w.heap.size/\b≠g) l[k] vt vr vk vo):
 aM (pZ (lv+1)) 7 e (((((((w.setCell ⟨g,k * 7,none⟩ (.string l[k].id)).setCell ⟨g,k * 7+1,none⟩ (.bool l[k].set)).setCell ⟨g,k * 7+2,none⟩ (.int .i64 l[k].alg)).setCell ⟨g,k * 7+3,none⟩ vt).setCell ⟨g,k * 7+4,none⟩ vr).setCell ⟨g,k * 7+5,none⟩ vk).setCell ⟨g,k * 7+6,none⟩ vo) base ok (.slice (some ⟨g,0,none⟩) n c) l:=by
 have g0:=aM.setAt (bB (lv+1)) (j:=0) (x:= .string l[k].id) (y:=l[k]) h o qe (by rintro r ⟨a,b,d,f,rfl,m⟩;exact⟨a,b,d,f,rfl,m⟩);rw[List.set_getElem_self] at g0;have g1:=aM.setAt (bB (lv+1)) (j:=1) (x:= .bool l[k].set) (y:=l[k]) g0 o qe (by rintro r ⟨a,b,d,f,rfl,m⟩;exact⟨a,b,d,f,rfl,m⟩);rw[List.set_getElem_self] at g1;have g2:=aM.setAt (bB (lv+1)) (j:=2) (x:= .int .i64 l[k].alg) (y:=l[k]) g1 o qe (by rintro r ⟨a,b,d,f,rfl,m⟩;exact⟨a,b,d,f,rfl,m⟩);rw[List.set_getElem_self] at g2;have p:=(eE aS (i:=k * 7+2) (x:= .int .i64 l[k].alg) (eE aS (i:=k * 7+1) (x:= .bool l[k].set) (eE aS (i:=k * 7+0) (x:= .string l[k].id) hp.2.2.1)));have g3:=aM.setAt (bB (lv+1)) (j:=3) (x:=vt) (y:=l[k]) g2 o qe (by rintro r ⟨a,b,d,f,rfl,m⟩;exact⟨vt,b,d,f,rfl,m.1,m.2.1,p,m.2.2.2.1,m.2.2.2.2.1,m.2.2.2.2.2⟩);rw[List.set_getElem_self] at g3;have q:=(eE bM (i:=k * 7+3) (x:=vt) (eE bM (i:=k * 7+2) (x:= .int .i64 l[k].alg) (eE bM (i:=k * 7+1) (x:= .bool l[k].set) (eE bM (i:=k * 7+0) (x:= .string l[k].id) hp.2.2.2.1))));have g4:=aM.setAt (bB (lv+1)) (j:=4) (x:=vr) (y:=l[k]) g3 o qe (by rintro r ⟨a,b,d,f,rfl,m⟩;exact⟨a,vr,d,f,rfl,m.1,m.2.1,m.2.2.1,q,m.2.2.2.2.1,m.2.2.2.2.2⟩);rw[List.set_getElem_self] at g4;have s:=(eE (bB lv) (i:=k * 7+4) (x:=vr) (eE (bB lv) (i:=k * 7+3) (x:=vt) (eE (bB lv) (i:=k * 7+2) (x:= .int .i64 l[k].alg) (eE (bB lv) (i:=k * 7+1) (x:= .bool l[k].set) (eE (bB lv) (i:=k * 7+0) (x:= .string l[k].id) hp.2.2.2.2.1)))));have g5:=aM.setAt (bB (lv+1)) (j:=5) (x:=vk) (y:=l[k]) g4 o qe (by rintro r ⟨a,b,d,f,rfl,m⟩;exact⟨a,b,vk,f,rfl,m.1,m.2.1,m.2.2.1,m.2.2.2.1,s,m.2.2.2.2.2⟩)
 rw[List.set_getElem_self] at g5;have t:=(eE aO (i:=k * 7+5) (x:=vk) (eE aO (i:=k * 7+4) (x:=vr) (eE aO (i:=k * 7+3) (x:=vt) (eE aO (i:=k * 7+2) (x:= .int .i64 l[k].alg) (eE aO (i:=k * 7+1) (x:= .bool l[k].set) (eE aO (i:=k * 7+0) (x:= .string l[k].id) hp.2.2.2.2.2))))));have g6:=aM.setAt (bB (lv+1)) (j:=6) (x:=vo) (y:=l[k]) g5 o qe (by rintro r ⟨a,b,d,f,rfl,m⟩;exact⟨a,b,d,vo,rfl,m.1,m.2.1,m.2.2.1,m.2.2.2.1,m.2.2.2.2.1,t⟩);rw[List.set_getElem_self] at g6;exact g6
end
theorem QCF{p:Prop}(h:p:=by
 cases hq:a.ownBlock with
 |none=>exact .inl rfl
 |some q=>exact .inr (fun e=>qD (ha q hq) (hb q e.symm))):p:=h
def eY{β:Type}(R:Rep β)(s:Nat)(e:TypeId)(base:Nat)(F:nP)(w:World)(ok:nP)(o:Option Value)(v:Value)(l:List β):Prop:=match o with
 |none=>aH R w F v l/\∀b,F b->ok b/\b<w.heap.size
 |some u=>v=u/\aM R s e w base (fun _=>False) u l/\(∀b,u.ownBlock=some b->ok b)/\l.length<=1000000
section
variable {β:Type} {R:Rep β} {s:Nat} {e:TypeId} {base:Nat} {N:nP} {w w':World} {ok ok':nP} {o:Option Value} {v:Value} {l:List β}
theorem eY.sl(F:Firm R s)(h:eY R s e base N w ok o v l):aH R w ok v l:=by
 cases o with
 |none=>exact aH.more F h.1 (fun b a=>(h.2 b a).1)
 |some u=>
  obtain⟨rfl,h1,h2,h3⟩:=h;exact aH.more F (h1.aDC F h3) (fun b a=>a.elim (fun h=>h.1.elim) (fun h=>h2 b h.symm))
theorem eY.aCT(F:Firm R s)(h:eY R s e base N w ok o v l)(c:aN ok w w'):eY R s e base N w' ok o v l:=by
 cases o with
 |none=>exact⟨aH.aCT F h.1 (c.mono (fun b _ a=>(h.2 b a).1)),fun b a=>⟨(h.2 b a).1,lL (h.2 b a).2 c.size⟩⟩
 |some u=>
  obtain⟨rfl,h1,h2,h3⟩:=h;exact⟨rfl,h1.stays F c h2 (fun b a _=>a.elim),h2,h3⟩
theorem eY.more(F:Firm R s)(h:eY R s e base N w ok o v l)(hm:∀b,ok b->ok' b):eY R s e base N w ok' o v l:=by
 cases o with
 |none=>exact⟨h.1,fun b a=>⟨hm b (h.2 b a).1,(h.2 b a).2⟩⟩
 |some u=>
  obtain⟨rfl,h1,h2,h3⟩:=h;exact⟨rfl,h1,fun b a=>hm b (h2 b a),h3⟩
theorem eY.inb(F:Firm R s)(h:eY R s e base N w ok o v l):eY R s e base N w (fun b=>ok b/\b<w.heap.size) o v l:=by
 cases o with
 |none=>exact⟨h.1,fun b a=>⟨h.2 b a,(h.2 b a).2⟩⟩
 |some u=>
  obtain⟨rfl,h1,h2,h3⟩:=h;exact⟨rfl,h1,fun b a=>⟨h2 b a,(h1.lt b a).2⟩,h3⟩
theorem eY.slice(F:Firm R s)(h:eY R s e base N w ok o v l):∃a c,v=.slice a l.length c/\l.length<=1000000:=(h.sl F).slice
end
abbrev Mix:=cF×Option Value×Option Value
def aCm(base:Nat)(N:nP)(w:World)(ok:nP)(x:Mix)(a b:Value):Prop:=x.1.id.size<=cQ/\x.1.aDb.size<=cQ/\x.1.aC5.size<=cQ/\eY lE 4 196 base N w ok x.2.1 a x.1.aCP/\eY mS 3 54 base N w ok x.2.2 b x.1.log
def dY(base:Nat)(N:nP):Rep Mix:=fun w ok cs x=>∃a b,cs=[.string x.1.id,.string x.1.aDb,.string x.1.aC5,a,b]/\aCm base N w ok x a b
theorem ZL{β:Type}{R:Rep β}{s:Nat}{e:TypeId}{base:Nat}{N:nP}{w:World}{ok:nP}{o:Option Value}{v:Value}{l:List β}(F:Firm R s)(h:eY R s e base N w ok o v l):v.oneCell'=true:=kU (h.sl F)
theorem dP(base:Nat)(N:nP):Firm (dY base N) 5:={
 aCT:=fun⟨a,b,e,h⟩ d=>⟨a,b,e,h.1,h.2.1,h.2.2.1,h.2.2.2.1.aCT bP d,h.2.2.2.2.aCT bW d⟩
 more:=fun⟨a,b,e,h⟩ f=>⟨a,b,e,h.1,h.2.1,h.2.2.1,h.2.2.2.1.more bP f,h.2.2.2.2.more bW f⟩
 len:=fun⟨a,b,e,h⟩=>by rw[e];rfl
 one:=fun⟨a,b,e,h⟩=>by
  intro v c;rw[e] at c;simp only[List.mem_cons,List.not_mem_nil,or_false] at c
  rcases c with rfl|rfl|rfl|rfl|rfl
  .rfl
  .rfl
  .rfl
  .exact ZL bP h.2.2.2.1
  .exact ZL bW h.2.2.2.2
 inb:=fun⟨a,b,e,h⟩=>⟨a,b,e,h.1,h.2.1,h.2.2.1,h.2.2.2.1.inb bP,h.2.2.2.2.inb bW⟩}
theorem Tx{base:Nat}{N:nP}{w:World}{ok:nP}{cs:List Value}{x:Mix}(h:dY base N w ok cs x):pW w ok cs x.1:=by
 obtain⟨a,b,e,h1,h2,h3,h4,h5⟩:=h;exact⟨a,b,e,h1,h2,h3,h4.sl bP,h5.sl bW⟩
theorem OF{base:Nat}{N:nP}{w:World}{ok:nP}:∀{L:List Mix} {cs:List Value},aX (dY base N w ok) cs L->aX (pW w ok) cs (L.map Prod.fst)
 | [],_,h=>h
 |x::L,cs,⟨r,t,e,hr,ht⟩=>⟨r,t,e,Tx hr,OF ht⟩
theorem OG{base:Nat}{N:nP}{w:World}{ok:nP}(a:∀b,N b->ok b/\b<w.heap.size):∀{l:List cF} {cs:List Value},aX (pW w N) cs l->aX (dY base N w ok) cs (l.map (fun c=>((c,none,none):Mix)))
 | [],_,h=>h
 |c::l,cs,⟨r,t,e,⟨vf,vl,e2,h⟩,ht⟩=>⟨r,t,e,⟨vf,vl,e2,h.1,h.2.1,h.2.2.1,⟨h.2.2.2.1,a⟩,⟨h.2.2.2.2,a⟩⟩,OG a ht⟩
theorem OH{e:TypeId}{w:World}{base b2:Nat}{ok:nP}{v:Value}{l:List cF}(h:aM pW 5 e w base ok v l)(d:∀b,ok b->b<w.heap.size/\some b≠v.ownBlock):aM (dY b2 ok) 5 e w base ok v (l.map (fun c=>((c,none,none):Mix))):=by
 obtain⟨cs,h1,h2⟩:=h;exact⟨cs,by rw[List.length_map];exact h1,OG (fun b a=>⟨⟨a,(d b a).1,(d b a).2⟩,(d b a).1⟩) (h2.mono fun r x f=>dK.more f fun b a=>a.1)⟩
theorem Ty{e:TypeId}{w:World}{base b2:Nat}{N:nP}{ok:nP}{v:Value}{L:List Mix}(h:aM (dY b2 N) 5 e w base ok v L):aM pW 5 e w base ok v (L.map Prod.fst):=by
 obtain⟨cs,h1,h2⟩:=h;exact⟨cs,by rw[List.length_map];exact h1,OF h2⟩
def pJ(L:List Mix):Prop:=∀i j (c:i<L.length) (hj:j<L.length),i≠j->(∀a b,L[i].2.1=some a->L[j].2.1=some b->a.ownBlock=none\/a.ownBlock≠b.ownBlock)/\(∀a b,L[i].2.2=some a->L[j].2.2=some b->a.ownBlock=none\/a.ownBlock≠b.ownBlock)
theorem FR(l:List cF):pJ (l.map (fun c=>((c,none,none):Mix))):=by
 intro i j d hj _;rw[List.getElem_map,List.getElem_map];exact⟨(fun a b h=>by cases h),(fun a b h=>by cases h)⟩
theorem OI{L:List Mix}(h:pJ L){k:Nat}(o:k<L.length){x:Mix}{n:Nat}(f:∀j (hj:j<L.length),(∀a b,L[j].2.1=some a->a.ownBlock=some b->b<n)/\(∀a b,L[j].2.2=some a->a.ownBlock=some b->b<n))
 (h1:x.2.1=L[k].2.1\/∀a b,x.2.1=some a->a.ownBlock=some b->n<=b)(h2:x.2.2=L[k].2.2\/∀a b,x.2.2=some a->a.ownBlock=some b->n<=b):pJ (L.set k x):=by
 have one:∀(a b:Value),(∀q,a.ownBlock=some q->n<=q)->(∀q,b.ownBlock=some q->q<n)->a.ownBlock=none\/a.ownBlock≠b.ownBlock:=fun a b ha hb=>by
  exact QCF
 have two:∀(a b:Value),(∀q,a.ownBlock=some q->q<n)->(∀q,b.ownBlock=some q->n<=q)->a.ownBlock=none\/a.ownBlock≠b.ownBlock:=fun a b ha hb=>by
  exact QCF
 intro i j c hj g;rw[List.length_set] at c hj;rw[List.getElem_set,List.getElem_set];by_cases l:k=i
 .subst l;rw[iP rfl,iN g];have d:=h k j o hj g;refine⟨?_,?_⟩
  .rcases h1 with h1|h1
   .rw[h1];exact d.1
   .exact fun a b ha hb=>one a b (fun q hq=>h1 a q ha hq) (fun q hq=>(f j hj).1 b q hb hq)
  .rcases h2 with h2|h2
   .rw[h2];exact d.2
   .exact fun a b ha hb=>one a b (fun q hq=>h2 a q ha hq) (fun q hq=>(f j hj).2 b q hb hq)
 .rw[iN l];by_cases m:k=j
  .subst m;rw[iP rfl];have d:=h i k c o g;refine⟨?_,?_⟩
   .rcases h1 with h1|h1
    .rw[h1];exact d.1
    .exact fun a b ha hb=>two a b (fun q hq=>(f i c).1 a q ha hq) (fun q hq=>h1 b q hb hq)
   .rcases h2 with h2|h2
    .rw[h2];exact d.2
    .exact fun a b ha hb=>two a b (fun q hq=>(f i c).2 a q ha hq) (fun q hq=>h2 b q hb hq)
  .rw[iN m];exact h i j c hj g
theorem KA{e:TypeId}{w:World}{base b2:Nat}{N:nP}{ok:nP}{v:Value}{L:List Mix}(h:aM (dY b2 N) 5 e w base ok v L):∀j (hj:j<L.length),(∀a b,L[j].2.1=some a->a.ownBlock=some b->b<w.heap.size)/\(∀a b,L[j].2.2=some a->a.ownBlock=some b->b<w.heap.size):=by
 intro j hj;obtain⟨cs,_,h2⟩:=h;obtain⟨r,⟨f,g,_,h3⟩,_⟩:=h2.at (fun r x d=>(dP b2 N).len d) hj;refine⟨fun a b ha c=> ?_,fun a b ha c=> ?_⟩
 .have h4:=h3.2.2.2.1;rw[ha] at h4;exact(h4.2.1.lt b c).2
 .have h4:=h3.2.2.2.2;rw[ha] at h4;exact(h4.2.1.lt b c).2
theorem aX.aDp{α:Type}{R b:List Value->α->Prop}:∀{l:List α} {cs:List Value},(∀i (c:i<l.length) r,R r l[i]->b r l[i])->aX R cs l->aX b cs l
 | [],_,_,hc=>hc
 |x::l,_,h,⟨r,t,e,a,ht⟩=>⟨r,t,e,h 0 qs r a,aX.aDp (fun i c r a=>h (i+1) (by simpa using c) r a) ht⟩
theorem aX.putAt{α:Type}{R d:List Value->α->Prop}{s:Nat}(f:∀r x,R r x->r.length=s){j:Nat}(hj:j<s){x:Value}{y:α}:∀{l:List α} {cs:List Value} {k:Nat},aX R cs l->(hk:k<l.length)->(∀i (c:i<l.length),i≠k->∀r,R r l[i]->d r l[i])->(∀r,R r l[k]->d (r.set j x) y)->aX d (cs.set (k * s+j) x) (l.set k y)
 | [],_,_,_,hk,_,_=>absurd hk qs
 |a::l,cs,0,⟨r,t,e,b,ht⟩,hk,ho,hy=>by
  have g:=f _ _ b;rw[e,Nat.zero_mul,Nat.zero_add,List.set_append_left _ _ qo];exact⟨_,_,rfl,hy r b,aX.aDp (fun i c r b=>ho (i+1) (by simpa using c) qo r b) ht⟩
 |a::l,cs,k+1,⟨r,t,e,b,ht⟩,hk,ho,hy=>by
  have g:=f _ _ b;have h1:(k+1) * s=k * s+s:=by rw[Nat.add_mul,Nat.one_mul]
  rw[e,List.set_append_right _ _ qo,show (k+1) * s+j - r.length=k * s+j by omega];exact⟨r,_,rfl,ho 0 qs qo r b,aX.putAt f hj ht (by simpa using hk) (fun i c m r b=>ho (i+1) (by simpa using c) qo r b) hy⟩
def bO(o:Option Value):Option Nat:=o.bind Value.ownBlock
theorem cM{o:Option Value}{b:Nat}:bO o=some b↔∃a,o=some a/\a.ownBlock=some b:=by
 cases o with
 |none=>simp[bO]
 |some a=>simp[bO]
theorem CY{L:List Mix}:pJ L↔∀i j (c:i<L.length) (hj:j<L.length),i≠j->(∀q,bO L[i].2.1=some q->bO L[j].2.1≠some q)/\(∀q,bO L[i].2.2=some q->bO L[j].2.2≠some q):=by
 have key:∀(o p:Option Value),(∀a b,o=some a->p=some b->a.ownBlock=none\/a.ownBlock≠b.ownBlock)↔(∀q,bO o=some q->bO p≠some q):=fun o p=>by
  constructor
  .intro h q k hp;obtain⟨a,ha,f⟩:=cM.1 k;obtain⟨b,g,l⟩:=cM.1 hp
   rcases h a b ha g with h|h
   .rw[h] at f;cases f
   .exact h (f.trans l.symm)
  .intro h a b ha g
   cases k:a.ownBlock with
   |none=>exact .inl rfl
   |some q=>exact .inr (fun e=>h q (cM.2 ⟨a,ha,k⟩) (cM.2 ⟨b,g,e.symm⟩))
 unfold pJ;constructor
 .intro h i j c hj d;exact⟨(key _ _).1 (h i j c hj d).1,(key _ _).1 (h i j c hj d).2⟩
 .intro h i j c hj d;exact⟨(key _ _).2 (h i j c hj d).1,(key _ _).2 (h i j c hj d).2⟩
theorem wZ{L:List Mix}(h:pJ L){k:Nat}(m:k<L.length){x:Mix}{n:Nat}(e:∀j (hj:j<L.length),(∀b,bO L[j].2.1=some b->b<n)/\(∀b,bO L[j].2.2=some b->b<n))
 (h1:∀b,bO x.2.1=some b->bO L[k].2.1=some b\/n<=b)(h2:∀b,bO x.2.2=some b->bO L[k].2.2=some b\/n<=b):pJ (L.set k x):=by
 rw[CY] at h ⊢;intro i j c hj f;rw[List.length_set] at c hj;rw[List.getElem_set,List.getElem_set];by_cases g:k=i
 .subst g;rw[iP rfl,iN f];have d:=h k j m hj f;refine⟨fun q a hp=> ?_,fun q a hp=> ?_⟩
  .rcases h1 q a with h3|h3
   .exact d.1 q h3 hp
   .have:=(e j hj).1 q hp;omega
  .rcases h2 q a with h3|h3
   .exact d.2 q h3 hp
   .have:=(e j hj).2 q hp;omega
 .rw[iN g];by_cases l:k=j
  .subst l;rw[iP rfl];have d:=h i k c m f;refine⟨fun q a hp=> ?_,fun q a hp=> ?_⟩
   .rcases h1 q hp with h3|h3
    .exact d.1 q a h3
    .have:=(e i c).1 q a;omega
   .rcases h2 q hp with h3|h3
    .exact d.2 q a h3
    .have:=(e i c).2 q a;omega
  .rw[iN l];exact h i j c hj f
theorem He{L:List Mix}(h:pJ L){k:Nat}{x:Mix}{n:Nat}(l:∀j (hj:j<L.length),(∀b,bO L[j].2.1=some b->b<n)/\(∀b,bO L[j].2.2=some b->b<n))
 (h1:∀b,bO x.2.1=some b->n<=b)(h2:∀b,bO x.2.2=some b->n<=b):pJ (L.take k++[x]++L.drop k):=by
 rw[CY] at h ⊢;have get:∀i (f:i<(L.take k++[x]++L.drop k).length),(L.take k++[x]++L.drop k)[i]=x/\i=min k L.length\/∃j,∃hj:j<L.length,(L.take k++[x]++L.drop k)[i]=L[j]/\(i<min k L.length/\j=i\/min k L.length<i/\j+1=i):=by
  intro i f;have d:=f;simp only[aL,List.length_take,List.length_cons,List.length_nil,List.length_drop] at d
  rcases Nat.lt_trichotomy i (min k L.length) with h3|h3|h3
  .refine .inr ⟨i,qo,?_,.inl ⟨h3,rfl⟩⟩;rw[List.getElem_append_left (by simp;omega),List.getElem_append_left (by simp;omega),List.getElem_take]
  .refine .inl ⟨?_,h3⟩;rw[List.getElem_append_left (by simp;omega),List.getElem_append_right (by simp;omega)];simp
  .refine .inr ⟨i - 1,qo,?_,.inr ⟨h3,qo⟩⟩;rw[List.getElem_append_right (by simp;omega),List.getElem_drop]
   congr 1
   simp only[aL,List.length_take,List.length_cons,List.length_nil];omega
 intro i j f hj s
 rcases get i f with ⟨e,r⟩|⟨o,d,e,r⟩
 .rcases get j hj with ⟨c,p⟩|⟨m,g,c,p⟩
  .omega
  .rw[e,c];refine⟨fun q a hp=> ?_,fun q a hp=> ?_⟩
   .have:=h1 q a;have:=(l m g).1 q hp;omega
   .have:=h2 q a;have:=(l m g).2 q hp;omega
 .rcases get j hj with ⟨c,p⟩|⟨m,g,c,p⟩
  .rw[e,c];refine⟨fun q a hp=> ?_,fun q a hp=> ?_⟩
   .have:=h1 q hp;have:=(l o d).1 q a;omega
   .have:=h2 q hp;have:=(l o d).2 q a;omega
  .rw[e,c];exact h o m d g qo
section
variable {β:Type} {R:Rep β} {s:Nat} {e:TypeId} {base b2:Nat} {N N':nP} {w w':World} {ok ok' q:nP} {o:Option Value} {v:Value} {l:List β}
theorem eY.aDm(F:Firm R s)(h:eY R s e base N w ok o v l)(c:aN q w w')(d:∀b,N b->q b)(hu:∀b,bO o=some b->q b)(hm:∀b,ok b->b<w.heap.size->ok' b):eY R s e base N w' ok' o v l:=by
 cases o with
 |none=>exact⟨aH.aCT F h.1 (c.mono (fun b _ a=>d b a)),fun b a=>⟨hm b (h.2 b a).1 (h.2 b a).2,lL (h.2 b a).2 c.size⟩⟩
 |some u=>
  obtain⟨rfl,h1,h2,h3⟩:=h;exact⟨rfl,h1.stays F c hu (fun b a _=>a.elim),fun b a=>hm b (h2 b a) (h1.lt b a).2,h3⟩
theorem eY.wider(F:Firm R s)(h:eY R s e base N w ok o v l)(c:b2<=base)(a:∀b,N b->N' b)(d:∀b,N' b->ok b/\b<w.heap.size):eY R s e b2 N' w ok o v l:=by
 cases o with
 |none=>exact⟨aH.more F h.1 a,d⟩
 |some u=>
  obtain⟨rfl,h1,h2,h3⟩:=h;exact⟨rfl,h1.less c,h2,h3⟩
end
section
variable {w w':World} {base b2:Nat} {N N' q:nP} {ok ok':nP} {e:TypeId} {g n c k:Nat} {r:List Value} {x:Mix}
theorem zS(h:dY base N w ok r x)(c:aN q w w')(a:∀b,N b->q b)(h1:∀b,bO x.2.1=some b->q b)(h2:∀b,bO x.2.2=some b->q b)(hm:∀b,ok b->b<w.heap.size->ok' b):dY base N w' ok' r x:=by
 obtain⟨j,k,e,d,f,g,i,p5⟩:=h;exact⟨j,k,e,d,f,g,i.aDm bP c a h1 hm,p5.aDm bW c a h2 hm⟩
theorem OJ(h:dY base N w ok r x)(c:b2<=base)(a:∀b,N b->N' b)(d:∀b,N' b->ok b/\b<w.heap.size):dY b2 N' w ok r x:=by
 obtain⟨k,l,e,f,g,i,j,p5⟩:=h;exact⟨k,l,e,f,g,i,j.wider bP c a d,p5.wider bW c a d⟩
theorem MI{L:List Mix}(h:aM (dY b2 N) 5 e w base ok (.slice (some ⟨g,0,none⟩) n c) L)(C:k<L.length){j:Nat}(hj:j<5){v:Value}{y:Mix}(m:aN q w w')(B:q g)(A:∀b,N b->q b)
 (p:∀i (l:i<L.length),i≠k->(∀b,bO L[i].2.1=some b->q b)/\(∀b,bO L[i].2.2=some b->q b))
 (E:∀r,dY b2 N w (fun b=>ok b/\b<w.heap.size/\b≠g) r L[k]->dY b2 N w' (fun b=>ok b/\b<w'.heap.size/\b≠g) (r.set j v) y):
 aM (dY b2 N) 5 e (w'.setCell ⟨g,k * 5+j,none⟩ v) base ok (.slice (some ⟨g,0,none⟩) n c) (L.set k y):=by
 obtain⟨cs,h1,h2⟩:=h;have t:=lM h1 m (fun b a=>by injection a with a;exact a▸B);have D:n=L.length:=by
  rcases h1.2 with ⟨f,_⟩|⟨_,_,_,f,_⟩
  .cases f
  .injection f
 subst D;refine⟨cs.set (k * 5+j) v,by rw[List.length_set];exact TK t,?_⟩;have F:∀b,ok b/\b<w'.heap.size/\b≠g->ok b/\b<(w'.setCell ⟨g,k * 5+j,none⟩ v).heap.size/\some b≠(Value.slice (some ⟨g,0,none⟩) L.length c).ownBlock:=fun b a=>⟨a.1,by rw[jL];exact a.2.1,fun e=>a.2.2 (by injection e)⟩
 have s:∀r z,dY b2 N w' (fun b=>ok b/\b<w'.heap.size/\b≠g) r z->dY b2 N (w'.setCell ⟨g,k * 5+j,none⟩ v) (fun b=>ok b/\b<(w'.setCell ⟨g,k * 5+j,none⟩ v).heap.size/\some b≠(Value.slice (some ⟨g,0,none⟩) L.length c).ownBlock) r z:=fun r z d=>
  (dP _ _).more ((dP _ _).aCT d (fF (fun h=>h.2.2 rfl))) F
 refine aX.putAt (fun r x d=>(dP b2 N).len d) hj h2 C (fun i l o r d=> ?_) (fun r d=> ?_)
 .exact s _ _ (zS d m A (p i l o).1 (p i l o).2 (fun b a _=>⟨a.1,lL a.2.1 m.size,fun e=>a.2.2 (by rw[e];rfl)⟩))
 .exact s _ _ (E r ((dP _ _).more d fun b a=>⟨a.1,a.2.1,fun e=>a.2.2 (by rw[e];rfl)⟩))
theorem Nl{L:List Mix}{v:Value}(h:aM (dY b2 N) 5 e w base ok v L)(m:aN q w w')(s:∀b,v.ownBlock=some b->q b){k:Nat}(f:k<L.length){y:Mix}(p:∀b,N b->q b)
 (n:∀i (c:i<L.length),i≠k->(∀b,bO L[i].2.1=some b->q b)/\(∀b,bO L[i].2.2=some b->q b))
 (x:∀r,dY b2 N w (fun b=>ok b/\b<w.heap.size/\some b≠v.ownBlock) r L[k]->dY b2 N w' (fun b=>ok b/\b<w'.heap.size/\some b≠v.ownBlock) r y):
 aM (dY b2 N) 5 e w' base ok v (L.set k y):=by
 obtain⟨cs,h1,h2⟩:=h;refine⟨cs,by rw[List.length_set];exact lM h1 m s,?_⟩;have key:∀{l:List Mix} {cs:List Value} {k:Nat} (f:k<l.length),aX (dY b2 N w (fun b=>ok b/\b<w.heap.size/\some b≠v.ownBlock)) cs l->
  (∀i (c:i<l.length),i≠k->∀r,dY b2 N w (fun b=>ok b/\b<w.heap.size/\some b≠v.ownBlock) r l[i]->dY b2 N w' (fun b=>ok b/\b<w'.heap.size/\some b≠v.ownBlock) r l[i])->
  (∀r,dY b2 N w (fun b=>ok b/\b<w.heap.size/\some b≠v.ownBlock) r l[k]->dY b2 N w' (fun b=>ok b/\b<w'.heap.size/\some b≠v.ownBlock) r y)->aX (dY b2 N w' (fun b=>ok b/\b<w'.heap.size/\some b≠v.ownBlock)) cs (l.set k y):=by
  intro l
  induction l with
  |nil=>intro cs k f;exact absurd f qs
  |cons a l z=>
   intro cs k f ⟨r,t,e,d,o⟩ h1 h2
   cases k with
   |zero=>exact⟨r,t,e,h2 r d,aX.aDp (fun i c r d=>h1 (i+1) (by simpa using c) qo r d) o⟩
   |succ k=>exact⟨r,t,e,h1 0 qs qo r d,z (by simpa using f) o (fun i c j r d=>h1 (i+1) (by simpa using c) qo r d) h2⟩
 exact key f h2 (fun i c j r d=>zS d m p (n i c j).1 (n i c j).2 (fun b g _=>⟨g.1,lL g.2.1 m.size,g.2.2⟩)) x
theorem yK{L:List Mix}{v:Value}(h:aM (dY b2 N) 5 e w base ok v L)(d:aN q w w')(j:∀b,v.ownBlock=some b->q b)(g:∀b,N b->q b)
 (f:∀i (c:i<L.length),(∀b,bO L[i].2.1=some b->q b)/\(∀b,bO L[i].2.2=some b->q b)):aM (dY b2 N) 5 e w' base ok v L:=by
 obtain⟨cs,h1,h2⟩:=h;exact⟨cs,lM h1 d j,aX.aDp (fun i c r k=>zS k d g (f i c).1 (f i c).2 (fun b a _=>⟨a.1,lL a.2.1 d.size,a.2.2⟩)) h2⟩
theorem kE{L:List Mix}{v:Value}(h:aM (dY b2 N) 5 e w base ok v L){k:Nat}(c:k<L.length):(∀u,L[k].2.1=some u->aM lE 4 196 w b2 (fun _=>False) u L[k].1.aCP/\(∀b,u.ownBlock=some b->some b≠v.ownBlock)/\L[k].1.aCP.length<=1000000)/\(∀u,L[k].2.2=some u->aM mS 3 54 w b2 (fun _=>False) u L[k].1.log/\(∀b,u.ownBlock=some b->some b≠v.ownBlock)/\L[k].1.log.length<=1000000):=by
 obtain⟨cs,_,h2⟩:=h;obtain⟨r,⟨f,g,_,h3⟩,_⟩:=h2.at (fun r x d=>(dP b2 N).len d) c;refine⟨fun u hu=> ?_,fun u hu=> ?_⟩
 .have h4:=h3.2.2.2.1;rw[hu] at h4;exact⟨h4.2.1,fun b a=>(h4.2.2.1 b a).2.2,h4.2.2.2⟩
 .have h4:=h3.2.2.2.2;rw[hu] at h4;exact⟨h4.2.1,fun b a=>(h4.2.2.1 b a).2.2,h4.2.2.2⟩
end
theorem QCp{p:Prop}(h:p:=by
 have h4:=(Ty h.aCK).sl (by rw[h.all];exact h1) (fun b=>K b\/base<=b) (fun b h _=>h) (fun b h _=> .inr h) dK;rw[h.all] at h4;exact h4):p:=h
theorem dS{α β:Type}{R:Rep α}{d:Rep β}{s j:Nat}{e c:TypeId}{w:World}{base f:Nat}{ok ok':nP}{v v':Value}{l:List α}{l':List β}(h:aM R s e w base ok v l)(g:aM d j c w f ok' v' l')(i:e≠c){b:Nat}(a:v.ownBlock=some b):some b≠v'.ownBlock:=fun he=>by
 rcases vK h g i with h1|h1
 .rw[h1] at a;cases a
 .exact h1 (a.trans he)
structure bC (K:Nat->Prop) (base:Nat) (w:World) (s:Sto) (L:List Mix) (ro:Option Value) (vc vr vn vo vt vu vk vb:Value):Prop where
 aCR:bK s.aCR
 aCW:bK s.aCW
 all:L.map Prod.fst=s.aCK
 aDd:∀j (hj:j<L.length),L[j].2.2.isSome=true
 apart:pJ L
 aCK:aM (dY base K) 5 52 w base (fun b=>K b\/base<=b) vc L
 aCO:aM sR 7 179 w base (fun _=>False) vr s.aCO
 aCS:aM vV 3 182 w base (fun _=>False) vn s.aCS
 aCX:eY qT 2 170 base K w (fun b=>K b\/base<=b) ro vo s.aCX
 aCL:fM 3 w K s.aCL vt vu vk vb
 kept:∀b,K b->b<w.heap.size/\some b≠vc.ownBlock/\some b≠vr.ownBlock/\some b≠vn.ownBlock/\bO ro≠some b
 aDe:∀j (hj:j<L.length),(∀b,bO L[j].2.1=some b->¬K b)/\(∀b,bO L[j].2.2=some b->¬K b)
 size:base<=w.heap.size
section
variable {K:nP} {base:Nat} {w w':World} {s:Sto} {L:List Mix} {ro:Option Value} {vc vr vn vo vt vu vk vb:Value}
theorem bC.len(h:bC K base w s L ro vc vr vn vo vt vu vk vb):L.length=s.aCK.length:=by rw[<-h.all,List.length_map]
theorem bC.aCQ(h:bC K base w s L ro vc vr vn vo vt vu vk vb){k:Nat}(a:k<L.length):s.aCK[k]? =some L[k].1:=by
 rw[<-h.all,List.getElem?_map,gE a];rfl
theorem bC.aDq(h:bC K base w s L ro vc vr vn vo vt vu vk vb){j:Nat}(hj:j<L.length){b:Nat}(c:bO L[j].2.1=some b):∃u,L[j].2.1=some u/\u.ownBlock=some b/\aM lE 4 196 w base (fun _=>False) u L[j].1.aCP/\some b≠vc.ownBlock:=by
 obtain⟨u,hu,a⟩:=cM.1 c;have:=(kE h.aCK hj).1 u hu;exact⟨u,hu,a,this.1,this.2.1 b a⟩
theorem bC.aDr(h:bC K base w s L ro vc vr vn vo vt vu vk vb){j:Nat}(hj:j<L.length){b:Nat}(c:bO L[j].2.2=some b):∃u,L[j].2.2=some u/\u.ownBlock=some b/\aM mS 3 54 w base (fun _=>False) u L[j].1.log/\some b≠vc.ownBlock:=by
 obtain⟨u,hu,a⟩:=cM.1 c;have:=(kE h.aCK hj).2 u hu;exact⟨u,hu,a,this.1,this.2.1 b a⟩
theorem bC.lt(h:bC K base w s L ro vc vr vn vo vt vu vk vb):∀j (hj:j<L.length),(∀b,bO L[j].2.1=some b->b<w.heap.size)/\(∀b,bO L[j].2.2=some b->b<w.heap.size):=fun j hj=>
 ⟨fun b a=>by obtain⟨u,_,h2,h3,_⟩:=h.aDq hj a;exact(h3.lt b h2).2,fun b a=>by obtain⟨u,_,h2,h3,_⟩:=h.aDr hj a;exact(h3.lt b h2).2⟩
theorem bC.from(h:bC K base w s L ro vc vr vn vo vt vu vk vb):∀j (hj:j<L.length),(∀b,bO L[j].2.1=some b->base<=b)/\(∀b,bO L[j].2.2=some b->base<=b):=fun j hj=>
 ⟨fun b a=>by obtain⟨u,_,h2,h3,_⟩:=h.aDq hj a;exact(h3.lt b h2).1,fun b a=>by obtain⟨u,_,h2,h3,_⟩:=h.aDr hj a;exact(h3.lt b h2).1⟩
theorem Nn{P:nP}{ok:nP}{o:Option Value}{v:Value}{l:List wV}(h:eY qT 2 170 base P w ok o v l){b:Nat}(a:bO o=some b):∃u,u.ownBlock=some b/\aM qT 2 170 w base (fun _=>False) u l:=by
 obtain⟨u,rfl,c⟩:=cM.1 a;exact⟨u,c,h.2.1⟩
theorem bC.rol(h:bC K base w s L ro vc vr vn vo vt vu vk vb){b:Nat}(a:bO ro=some b):∃u,u.ownBlock=some b/\aM qT 2 170 w base (fun _=>False) u s.aCX:=Nn h.aCX a
theorem bC.stays(h:bC K base w s L ro vc vr vn vo vt vu vk vb){q:nP}(c:aN q w w')(f:∀b,K b->q b)(a:∀b,base<=b->b<w.heap.size->q b):bC K base w' s L ro vc vr vn vo vt vu vk vb:={
 aCR:=h.aCR
 aCW:=h.aCW
 all:=h.all
 aDd:=h.aDd
 apart:=h.apart
 aCK:=yK h.aCK c (fun b e=>a b (h.aCK.lt b e).1 (h.aCK.lt b e).2) f (fun i d=>⟨fun b e=>a b ((h.from i d).1 b e) ((h.lt i d).1 b e),fun b e=>a b ((h.from i d).2 b e) ((h.lt i d).2 b e)⟩)
 aCO:=h.aCO.stays cT c (fun b e=>a b (h.aCO.lt b e).1 (h.aCO.lt b e).2) (fun _ h _=>h.elim)
 aCS:=h.aCS.stays dZ c (fun b e=>a b (h.aCS.lt b e).1 (h.aCS.lt b e).2) (fun _ h _=>h.elim)
 aCX:=h.aCX.aDm dA c f (fun b e=>by obtain⟨u,h2,h3⟩:=h.rol e;exact a b (h3.lt b h2).1 (h3.lt b h2).2) (fun _ h _=>h)
 aCL:=h.aCL.aCT (c.mono fun b _ a=>f b a)
 kept:=fun b a=>⟨lL (h.kept b a).1 c.size,(h.kept b a).2⟩
 aDe:=h.aDe
 size:=lT h.size c.size}
theorem bC.on(h:bC K base w s L ro vc vr vn vo vt vu vk vb)(a:Below w.heap.size w w'):bC K base w' s L ro vc vr vn vo vt vu vk vb:=h.stays (aJ (ok:=fun _=>True) a) (fun _ _=>trivial) (fun _ _ _=>trivial)
theorem bC.off(h:bC K base w s L ro vc vr vn vo vt vu vk vb){g i:Nat}{x:Value}(c:¬K g)(a:g<base):bC K base (w.setCell ⟨g,i,none⟩ x) s L ro vc vr vn vo vt vu vk vb:=
 h.stays (q:=fun b=>b≠g) (aI x) (fun b a e=>c (e▸a)) (fun b h1 _ e=>by omega)
theorem bC.sto(h:bC K base w s L ro vc vr vn vo vt vu vk vb)(h1:s.aCK.length<=1000000)(h2:s.aCO.length<=1000000)(h3:s.aCS.length<=1000000):eZ w (fun b=>K b\/base<=b) s vc vr vn vo vt vu vk vb:={
 aCR:=h.aCR
 aCW:=h.aCW
 aCK:=by
  exact QCp
 aCO:=h.aCO.sl h2 _ (fun b h _=>h.elim) (fun b h _=> .inr h) cT
 aCS:=h.aCS.sl h3 _ (fun b h _=>h.elim) (fun b h _=> .inr h) dZ
 aCX:=h.aCX.sl dA
 aCL:=h.aCL.more fun b h=> .inl h}
theorem bC.far(h:bC K base w s L ro vc vr vn vo vt vu vk vb){α:Type}{R:Rep α}{n:Nat}{e:TypeId}{b2:Nat}{ok:nP}{v:Value}{l:List α}(c:aM R n e w b2 ok v l)(h1:52≠e)(h2:196≠e)(h3:54≠e):
 (∀b,vc.ownBlock=some b->some b≠v.ownBlock)/\∀j (hj:j<L.length),(∀b,bO L[j].2.1=some b->some b≠v.ownBlock)/\(∀b,bO L[j].2.2=some b->some b≠v.ownBlock):=
 ⟨fun b a=>dS h.aCK c h1 a,fun j hj=>⟨fun b a=>by obtain⟨u,_,h4,h5,_⟩:=h.aDq hj a;exact dS h5 c h2 h4,fun b a=>by obtain⟨u,_,h4,h5,_⟩:=h.aDr hj a;exact dS h5 c h3 h4⟩⟩
theorem bC.aC6(h:bC K base w s L ro vc vr vn vo vt vu vk vb){v':Value}{l':List vU}(i:w.grownBy w' vr.ownBlock)(f:aM sR 7 179 w' base (fun _=>False) v' l')(g:∀b,v'.ownBlock=some b->vr.ownBlock=some b\/w.heap.size<=b):
 bC K base w' {s with aCO:=l'} L ro vc v' vn vo vt vu vk vb:=by
 have c:=cV i;have d:=h.far h.aCO qe qe qe;refine {aCR:=h.aCR,aCW:=h.aCW,all:=h.all,aDd:=h.aDd,apart:=h.apart,aCK:=yK h.aCK c d.1 (fun b a=>(h.kept b a).2.2.1) d.2,aCO:=f,aCS:=h.aCS.stays dZ c (fun b a=>dS h.aCS h.aCO qe a) (fun _ h _=>h.elim),aCX:=h.aCX.aDm dA c (fun b a=>(h.kept b a).2.2.1) (fun b e=> ?_) (fun _ h _=>h),aCL:=h.aCL.aCT (c.mono fun b _ a=>(h.kept b a).2.2.1),kept:=fun b a=> ?_,aDe:=h.aDe,size:=lT h.size c.size}
 .obtain⟨u,h2,h3⟩:=h.rol e;exact dS h3 h.aCO qe h2
 .have h1:=h.kept b a;refine⟨lL h1.1 c.size,h1.2.1,fun e=> ?_,h1.2.2.2⟩
  rcases g b e.symm with h2|h2
  .exact h1.2.2.1 h2.symm
  .have:=h1.1;omega
theorem bC.aDS(h:bC K base w s L ro vc vr vn vo vt vu vk vb){v':Value}{l':List xP}(i:w.grownBy w' vn.ownBlock)(f:aM vV 3 182 w' base (fun _=>False) v' l')(g:∀b,v'.ownBlock=some b->vn.ownBlock=some b\/w.heap.size<=b):
 bC K base w' {s with aCS:=l'} L ro vc vr v' vo vt vu vk vb:=by
 have c:=cV i;have d:=h.far h.aCS qe qe qe;refine {aCR:=h.aCR,aCW:=h.aCW,all:=h.all,aDd:=h.aDd,apart:=h.apart,aCK:=yK h.aCK c d.1 (fun b a=>(h.kept b a).2.2.2.1) d.2,aCO:=h.aCO.stays cT c (fun b a=>dS h.aCO h.aCS qe a) (fun _ h _=>h.elim),aCS:=f,aCX:=h.aCX.aDm dA c (fun b a=>(h.kept b a).2.2.2.1) (fun b e=> ?_) (fun _ h _=>h),aCL:=h.aCL.aCT (c.mono fun b _ a=>(h.kept b a).2.2.2.1),kept:=fun b a=> ?_,aDe:=h.aDe,size:=lT h.size c.size}
 .obtain⟨u,h2,h3⟩:=h.rol e;exact dS h3 h.aCS qe h2
 .have h1:=h.kept b a;refine⟨lL h1.1 c.size,h1.2.1,h1.2.2.1,fun e=> ?_,h1.2.2.2.2⟩
  rcases g b e.symm with h2|h2
  .exact h1.2.2.2.1 h2.symm
  .have:=h1.1;omega
theorem bC.role(h:bC K base w s L (some vo) vc vr vn vo vt vu vk vb){v':Value}{l':List wV}(k:w.grownBy w' vo.ownBlock)(g:aM qT 2 170 w' base (fun _=>False) v' l')(j:∀b,v'.ownBlock=some b->vo.ownBlock=some b\/w.heap.size<=b)(l:l'.length<=1000000):
 bC K base w' {s with aCX:=l'} L (some v') vc vr vn v' vt vu vk vb:=by
 have c:=cV k;have d:∀b,K b->some b≠vo.ownBlock:=fun b a e=>(h.kept b a).2.2.2.2 (cM.2 ⟨vo,rfl,e.symm⟩)
 have f:aM qT 2 170 w base (fun _=>False) vo s.aCX:=h.aCX.2.1;have i:=h.far f qe qe qe;refine {aCR:=h.aCR,aCW:=h.aCW,all:=h.all,aDd:=h.aDd,apart:=h.apart,aCK:=yK h.aCK c i.1 d i.2,aCO:=h.aCO.stays cT c (fun b a=>dS h.aCO f qe a) (fun _ h _=>h.elim),aCS:=h.aCS.stays dZ c (fun b a=>dS h.aCS f qe a) (fun _ h _=>h.elim),aCX:=⟨rfl,g,fun b a=> .inr (g.lt b a).1,l⟩,aCL:=h.aCL.aCT (c.mono fun b _ a=>d b a),kept:=fun b a=> ?_,aDe:=h.aDe,size:=lT h.size c.size}
 .have h1:=h.kept b a;refine⟨lL h1.1 c.size,h1.2.1,h1.2.2.1,h1.2.2.2.1,fun e=> ?_⟩;obtain⟨u,hu,m⟩:=cM.1 e;injection hu with hu;subst hu
  rcases j b m with h2|h2
  .exact d b a h2.symm
  .have:=h1.1;omega
theorem bC.aDx(h:bC K base w s L ro vc vr vn vo vt vu vk vb)(c:Below w.heap.size w w'):bC (fun b=>K b\/(w.heap.size<=b/\b<w'.heap.size)) base w' s L ro vc vr vn vo vt vu vk vb:=by
 have h0:=h.on c;have d:∀(v:Value),(∀b,v.ownBlock=some b->b<w.heap.size)->∀b,w.heap.size<=b->some b≠v.ownBlock:=fun v i b c e=>qA (i b e.symm)
 have f:=d vc (fun b c=>(h.aCK.lt b c).2);refine {aCR:=h.aCR,aCW:=h.aCW,all:=h.all,aDd:=h.aDd,apart:=h.apart,aCK:= ?_,aCO:=h0.aCO,aCS:=h0.aCS,aCX:= ?_,aCL:=h0.aCL.more (fun b c=> .inl c),kept:=fun b a=> ?_,aDe:=fun j hj=>⟨fun b c a=> ?_,fun b c a=> ?_⟩,size:=h0.size}
 .obtain⟨cs,h1,h2⟩:=h0.aCK;exact⟨cs,h1,h2.mono fun r x g=>OJ ((dP _ _).more g fun b c=>⟨c.1.elim (fun h=> .inl (.inl h)) .inr,c.2⟩) (lR _) (fun b c=> .inl c) (fun b a=>by
   rcases a with a|a
   .exact⟨⟨.inl (.inl a),(h0.kept b a).1,(h0.kept b a).2.1⟩,(h0.kept b a).1⟩
   .exact⟨⟨.inl (.inr a),a.2,f b a.1⟩,a.2⟩)⟩
 .have h1:=eY.more (ok':=fun b=>(K b\/(w.heap.size<=b/\b<w'.heap.size))\/base<=b) dA h0.aCX (fun b c=>c.elim (fun h=> .inl (.inl h)) .inr);exact h1.wider dA (lR _) (fun b c=> .inl c) (fun b a=>⟨.inl a,a.elim (fun h=>(h0.kept b h).1) (fun h=>h.2)⟩)
 .rcases a with a|a
  .exact h0.kept b a
  .refine⟨a.2,f b a.1,d vr (fun b c=>(h.aCO.lt b c).2) b a.1,d vn (fun b c=>(h.aCS.lt b c).2) b a.1,fun e=> ?_⟩;obtain⟨u,h2,h3⟩:=h.rol e;have:=(h3.lt b h2).2;have:=a.1;omega
 .rcases a with a|a
  .exact(h.aDe j hj).1 b c a
  .have:=(h.lt j hj).1 b c;omega
 .rcases a with a|a
  .exact(h.aDe j hj).2 b c a
  .have:=(h.lt j hj).2 b c;omega
theorem bC.wider(h:bC K base w s L ro vc vr vn vo vt vu vk vb)(a:Below w.heap.size w w'){p:Po}{e f d c:Value}(hp:fM 3 w' (fun b=>w.heap.size<=b) p e f d c){n:Int}(g:bK n):bC (fun b=>K b\/(w.heap.size<=b/\b<w'.heap.size)) base w' {s with aCL:=p,aCW:=n} L ro vc vr vn vo e f d c:=by
 have k:=h.aDx a;exact {aCR:=k.aCR,aCW:=g,all:=k.all,aDd:=k.aDd,apart:=k.apart,aCK:=k.aCK,aCO:=k.aCO,aCS:=k.aCS,aCX:=k.aCX,aCL:=(hp.inb).more (fun b a=> .inr a),kept:=k.kept,aDe:=k.aDe,size:=k.size}
end
theorem QDb{p:Prop}(h:p:=by
 obtain⟨u,hu,hu2⟩:=cM.1 hb;injection hu with hu;subst hu;exact(hat b hu2).imp (own b) id):p:=h
theorem QCo{p:Prop}(h:p:=by
 obtain⟨u,hu,hu2⟩:=cM.1 hb;injection hu with hu;subst hu
 rcases hat b hu2 with h2|h2
 .exact hK b hKb h2.symm
 .have:=(h.kept b hKb).1;omega):p:=h
section
variable {K:nP} {base:Nat} {w w' w1:World} {s:Sto} {L:List Mix} {ro:Option Value} {vr vn vo vt vu vk vb:Value} {g n c k:Nat}
theorem bC.beside{vc:Value}(h:bC K base w s L ro vc vr vn vo vt vu vk vb)(d:k<L.length):(∀b,bO L[k].2.1=some b->∀j (hj:j<L.length),(j≠k->bO L[j].2.1≠some b)/\bO L[j].2.2≠some b)/\(∀b,bO L[k].2.2=some b->∀j (hj:j<L.length),(j≠k->bO L[j].2.2≠some b)/\bO L[j].2.1≠some b):=by
 have ha:=CY.1 h.apart;have ne:∀i j (f:i<L.length) (hj:j<L.length) b,bO L[i].2.1=some b->bO L[j].2.2=some b->False:=fun i j f hj b h1 h2=>by
  obtain⟨u,_,g,g1,_⟩:=h.aDq f h1;obtain⟨m,_,l,g2,_⟩:=h.aDr hj h2;exact dS g1 g2 qe g l.symm
 exact⟨fun b c j hj=>⟨fun e a=>(ha k j d hj (Ne.symm e)).1 b c a,fun a=>ne k j d hj b c a⟩,fun b c j hj=>⟨fun e a=>(ha k j d hj (Ne.symm e)).2 b c a,fun a=>ne j k hj d b a c⟩⟩
theorem tK{L:List Mix}{l:List cF}(h:L.map Prod.fst=l)(k:Nat)(x:Mix):(L.set k x).map Prod.fst=l.set k x.1:=by rw[List.map_set,h]
theorem bC.rest(h:bC K base w s L ro (.slice (some ⟨g,0,none⟩) n c) vr vn vo vt vu vk vb){q:nP}(f:aN q w w1)(k:∀b,K b->q b)(z:∀b,vr.ownBlock=some b->q b)(v:∀b,vn.ownBlock=some b->q b)(y:∀b,bO ro=some b->q b)
 {a:List Mix}{l':List cF}(m:a.map Prod.fst=l')(t:∀j (hj:j<a.length),a[j].2.2.isSome=true)(o:pJ a)(r:∀j (hj:j<a.length),(∀b,bO a[j].2.1=some b->¬K b)/\(∀b,bO a[j].2.2=some b->¬K b)){i:Nat}{x:Value}
 (p:aM (dY base K) 5 52 (w1.setCell ⟨g,i,none⟩ x) base (fun b=>K b\/base<=b) (.slice (some ⟨g,0,none⟩) n c) a):bC K base (w1.setCell ⟨g,i,none⟩ x) {s with aCK:=l'} a ro (.slice (some ⟨g,0,none⟩) n c) vr vn vo vt vu vk vb:={
 aCR:=h.aCR
 aCW:=h.aCW
 all:=m
 aDd:=t
 apart:=o
 aCK:=p
 aCO:=aM.off cT (h.aCO.stays cT f z (fun _ h _=>h.elim)) (fun h=>h) (fun e=>dS h.aCO h.aCK qe e rfl)
 aCS:=aM.off dZ (h.aCS.stays dZ f v (fun _ h _=>h.elim)) (fun h=>h) (fun e=>dS h.aCS h.aCK qe e rfl)
 aCX:=(h.aCX.aDm dA f k y (fun _ h _=>h)).aDm (q:=fun b=>b≠g) dA (aI x) (fun b d e=>(h.kept b d).2.1 (by rw[e];rfl)) (fun b e l=>by
  obtain⟨u,h2,h3⟩:=h.rol e;exact dS h3 h.aCK qe h2 (by rw[l];rfl)) (fun _ h _=>h)
 aCL:=(h.aCL.aCT (f.mono fun b _ d=>k b d)).aCT (fF (fun d=>(h.kept g d).2.1 rfl))
 kept:=fun b d=>⟨by rw[jL];exact lL (h.kept b d).1 f.size,(h.kept b d).2⟩
 aDe:=r
 size:=by rw[jL];exact lT h.size f.size}
theorem zT{L:List Mix}(h:∀j (hj:j<L.length),L[j].2.2.isSome=true){k:Nat}{x:Mix}(a:x.2.2.isSome=true):∀j (hj:j<(L.set k x).length),(L.set k x)[j].2.2.isSome=true:=by
 intro j hj;rw[List.length_set] at hj;rw[List.getElem_set];split
 .exact a
 .exact h j hj
theorem zU{K:nP}{L:List Mix}(h:∀j (hj:j<L.length),(∀b,bO L[j].2.1=some b->¬K b)/\(∀b,bO L[j].2.2=some b->¬K b)){k:Nat}{x:Mix}(a:(∀b,bO x.2.1=some b->¬K b)/\(∀b,bO x.2.2=some b->¬K b)):∀j (hj:j<(L.set k x).length),(∀b,bO (L.set k x)[j].2.1=some b->¬K b)/\(∀b,bO (L.set k x)[j].2.2=some b->¬K b):=by
 intro j hj;rw[List.length_set] at hj;rw[List.getElem_set];split
 .exact a
 .exact h j hj
theorem bC.log(h:bC K base w s L ro (.slice (some ⟨g,0,none⟩) n c) vr vn vo vt vu vk vb)(a:k<L.length){v v':Value}(q:L[k].2.2=some v){d:List tU}(z:w.grownBy w1 v.ownBlock)(m:aM mS 3 54 w1 base (fun _=>False) v' d)(hat:∀b,v'.ownBlock=some b->v.ownBlock=some b\/w.heap.size<=b)(hlen:d.length<=1000000):
 bC K base (w1.setCell ⟨g,k * 5+4,none⟩ v') {s with aCK:=s.aCK.set k {L[k].1 with log:=d}} (L.set k ({L[k].1 with log:=d},L[k].2.1,some v')) ro (.slice (some ⟨g,0,none⟩) n c) vr vn vo vt vu vk vb:=by
 have l:=cV z;have f:=(kE h.aCK a).2 v q;have H:g<w.heap.size:=(h.aCK.lt g rfl).2;have own:∀b,v.ownBlock=some b->bO L[k].2.2=some b:=fun b hb=>cM.2 ⟨v,q,hb⟩
 have hK:∀b,K b->some b≠v.ownBlock:=fun b hb e=>(h.aDe k a).2 b (own b e.symm) hb
 have o:some g≠v.ownBlock:=fun e=>f.2.1 g e.symm rfl
 have B:∀b,v'.ownBlock=some b->b≠g:=fun b hb e=>by
  rcases hat b hb with h2|h2
  .exact o (by rw[h2,e])
  .omega
 have t:=MI (v:=v') (y:=({L[k].1 with log:=d},L[k].2.1,some v')) h.aCK a (j:=4) qe l o hK
  (fun i p A=>⟨fun b hb e=>((h.beside a).2 b (own b e.symm) i p).2 hb,fun b hb e=>((h.beside a).2 b (own b e.symm) i p).1 A hb⟩)
  (by
    rintro r ⟨G,I,rfl,C,D,E,F,p5⟩;refine⟨G,v',rfl,C,D,E,?_,rfl,m,fun b hb=>⟨.inr (m.lt b hb).1,(m.lt b hb).2,B b hb⟩,hlen⟩;exact F.aDm bP l hK (fun b hb e=>((h.beside a).2 b (own b e.symm) k a).2 hb) (fun b hb _=>⟨hb.1,lL hb.2.1 l.size,hb.2.2⟩))
 refine h.rest l hK (fun b hb=>dS h.aCO f.1 qe hb) (fun b hb=>dS h.aCS f.1 qe hb) (fun b e=> ?_) (tK h.all k ({L[k].1 with log:=d},L[k].2.1,some v')) (zT (x:=({L[k].1 with log:=d},L[k].2.1,some v')) h.aDd rfl) (wZ (x:=({L[k].1 with log:=d},L[k].2.1,some v')) h.apart a h.lt (fun b hb=> .inl hb) (fun b hb=> ?_)) (zU (x:=({L[k].1 with log:=d},L[k].2.1,some v')) h.aDe ⟨(h.aDe k a).1,fun b hb hKb=> ?_⟩) t
 .obtain⟨u,h2,h3⟩:=h.rol e;exact dS h3 f.1 qe h2
 .exact QDb
 .exact QCo
theorem bC.aCP(h:bC K base w s L ro (.slice (some ⟨g,0,none⟩) n c) vr vn vo vt vu vk vb)(a:k<L.length){v v':Value}(q:L[k].2.1=some v){d:List pQ}(z:w.grownBy w1 v.ownBlock)(m:aM lE 4 196 w1 base (fun _=>False) v' d)(hat:∀b,v'.ownBlock=some b->v.ownBlock=some b\/w.heap.size<=b)(hlen:d.length<=1000000):
 bC K base (w1.setCell ⟨g,k * 5+3,none⟩ v') {s with aCK:=s.aCK.set k {L[k].1 with aCP:=d}} (L.set k ({L[k].1 with aCP:=d},some v',L[k].2.2)) ro (.slice (some ⟨g,0,none⟩) n c) vr vn vo vt vu vk vb:=by
 have l:=cV z;have f:=(kE h.aCK a).1 v q;have G:g<w.heap.size:=(h.aCK.lt g rfl).2;have own:∀b,v.ownBlock=some b->bO L[k].2.1=some b:=fun b hb=>cM.2 ⟨v,q,hb⟩
 have hK:∀b,K b->some b≠v.ownBlock:=fun b hb e=>(h.aDe k a).1 b (own b e.symm) hb
 have o:some g≠v.ownBlock:=fun e=>f.2.1 g e.symm rfl
 have B:∀b,v'.ownBlock=some b->b≠g:=fun b hb e=>by
  rcases hat b hb with h2|h2
  .exact o (by rw[h2,e])
  .omega
 have t:=MI (v:=v') (y:=({L[k].1 with aCP:=d},some v',L[k].2.2)) h.aCK a (j:=3) qe l o hK
  (fun i p A=>⟨fun b hb e=>((h.beside a).1 b (own b e.symm) i p).1 A hb,fun b hb e=>((h.beside a).1 b (own b e.symm) i p).2 hb⟩)
  (by
    rintro r ⟨I,F,rfl,C,D,E,H,p5⟩;refine⟨v',F,rfl,C,D,E,⟨rfl,m,fun b hb=>⟨.inr (m.lt b hb).1,(m.lt b hb).2,B b hb⟩,hlen⟩,?_⟩;exact p5.aDm bW l hK (fun b hb e=>((h.beside a).1 b (own b e.symm) k a).2 hb) (fun b hb _=>⟨hb.1,lL hb.2.1 l.size,hb.2.2⟩))
 refine h.rest l hK (fun b hb=>dS h.aCO f.1 qe hb) (fun b hb=>dS h.aCS f.1 qe hb) (fun b e=> ?_) (tK h.all k ({L[k].1 with aCP:=d},some v',L[k].2.2)) (zT (x:=({L[k].1 with aCP:=d},some v',L[k].2.2)) h.aDd (h.aDd k a)) (wZ (x:=({L[k].1 with aCP:=d},some v',L[k].2.2)) h.apart a h.lt (fun b hb=> ?_) (fun b hb=> .inl hb)) (zU (x:=({L[k].1 with aCP:=d},some v',L[k].2.2)) h.aDe ⟨fun b hb hKb=> ?_,(h.aDe k a).2⟩) t
 .obtain⟨u,h2,h3⟩:=h.rol e;exact dS h3 f.1 qe h2
 .exact QDb
 .exact QCo
theorem bC.aC5(h:bC K base w s L ro (.slice (some ⟨g,0,none⟩) n c) vr vn vo vt vu vk vb)(a:k<L.length){to_:bY}(i:to_.size<=cQ):
 bC K base (w.setCell ⟨g,k * 5+2,none⟩ (.string to_)) {s with aCK:=s.aCK.set k {L[k].1 with aC5:=to_}} (L.set k ({L[k].1 with aC5:=to_},L[k].2.1,L[k].2.2)) ro (.slice (some ⟨g,0,none⟩) n c) vr vn vo vt vu vk vb:=by
 have e:aN (fun _=>True) w w:=aN.refl _ w;have f:=MI (v:= .string to_) (y:=({L[k].1 with aC5:=to_},L[k].2.1,L[k].2.2)) h.aCK a (j:=2) qe e trivial (fun _ _=>trivial) (fun _ _ _=>⟨fun _ _=>trivial,fun _ _=>trivial⟩)
  (by
    rintro r ⟨p,q,rfl,l,m,t,o,p5⟩;exact⟨p,q,rfl,l,m,i,o,p5⟩)
 exact h.rest e (fun _ _=>trivial) (fun _ _=>trivial) (fun _ _=>trivial) (fun _ _=>trivial) (tK h.all k ({L[k].1 with aC5:=to_},L[k].2.1,L[k].2.2)) (zT h.aDd (x:=({L[k].1 with aC5:=to_},L[k].2.1,L[k].2.2)) (h.aDd k a)) (wZ (x:=({L[k].1 with aC5:=to_},L[k].2.1,L[k].2.2)) h.apart a h.lt (fun b d=> .inl d) (fun b d=> .inl d)) (zU h.aDe (x:=({L[k].1 with aC5:=to_},L[k].2.1,L[k].2.2)) (h.aDe k a)) f
end
section
variable {K:nP} {base:Nat} {w w' w1:World} {s:Sto} {L:List Mix} {ro:Option Value} {vc vr vn vo vt vu vk vb:Value} {g n c k:Nat}
theorem bC.aC4(h:bC K base w s L ro vc vr vn vo vt vu vk vb)(c:k<L.length){v:Value}(g:L[k].2.1=some v){f:List pQ}(d:aN (fun b=>some b≠v.ownBlock) w w')(q:aM lE 4 196 w' base (fun _=>False) v f)(hlen:f.length=L[k].1.aCP.length):
 bC K base w' {s with aCK:=s.aCK.set k {L[k].1 with aCP:=f}} (L.set k ({L[k].1 with aCP:=f},some v,L[k].2.2)) ro vc vr vn vo vt vu vk vb:=by
 have l:=(kE h.aCK c).1 v g;have own:∀b,v.ownBlock=some b->bO L[k].2.1=some b:=fun b a=>cM.2 ⟨v,g,a⟩
 have j:∀b,K b->some b≠v.ownBlock:=fun b a e=>(h.aDe k c).1 b (own b e.symm) a
 have t:=Nl h.aCK d (fun b a=>dS h.aCK l.1 qe a) c (y:=({L[k].1 with aCP:=f},some v,L[k].2.2)) j
  (fun i n z=>⟨fun b a e=>((h.beside c).1 b (own b e.symm) i n).1 z a,fun b a e=>((h.beside c).1 b (own b e.symm) i n).2 a⟩)
  (by
    rintro r ⟨E,F,rfl,A,B,C,o,p5⟩;rw[g] at o;obtain⟨p,q1,m,D⟩:=o;subst p;refine⟨E,F,rfl,A,B,C,⟨rfl,q,fun b a=>⟨(m b a).1,lL (m b a).2.1 d.size,(m b a).2.2⟩,by rw[hlen];exact D⟩,?_⟩;exact p5.aDm bW d j (fun b a e=>((h.beside c).1 b (own b e.symm) k c).2 a) (fun b a _=>⟨a.1,lL a.2.1 d.size,a.2.2⟩))
 exact {aCR:=h.aCR,aCW:=h.aCW,all:=tK h.all k ({L[k].1 with aCP:=f},some v,L[k].2.2),aDd:=zT (x:=({L[k].1 with aCP:=f},some v,L[k].2.2)) h.aDd (h.aDd k c),apart:=wZ (x:=({L[k].1 with aCP:=f},some v,L[k].2.2)) h.apart c h.lt (fun b a=> .inl (by rw[g];exact a)) (fun b a=> .inl a),aCK:=t,aCO:=h.aCO.stays cT d (fun b a=>dS h.aCO l.1 qe a) (fun _ h _=>h.elim),aCS:=h.aCS.stays dZ d (fun b a=>dS h.aCS l.1 qe a) (fun _ h _=>h.elim),aCX:=h.aCX.aDm dA d j (fun b e=>by obtain⟨u,h2,h3⟩:=h.rol e;exact dS h3 l.1 qe h2) (fun _ h _=>h),aCL:=h.aCL.aCT (d.mono fun b _ a=>j b a),kept:=fun b a=>⟨lL (h.kept b a).1 d.size,(h.kept b a).2⟩,aDe:=zU (x:=({L[k].1 with aCP:=f},some v,L[k].2.2)) h.aDe ⟨fun b a=>(h.aDe k c).1 b (by rw[g];exact a),(h.aDe k c).2⟩,size:=lT h.size d.size}
theorem bC.close(h:bC K base w s L ro vc (.slice (some ⟨g,0,none⟩) n c) vn vo vt vu vk vb)(m:k<s.aCO.length){b:Bool}:
 bC K base (w.setCell ⟨g,k * 7+6,none⟩ (.bool b)) {s with aCO:=s.aCO.set k {s.aCO[k] with open_:=b}} L ro vc (.slice (some ⟨g,0,none⟩) n c) vn vo vt vu vk vb:=by
 have a:=aM.setAt cT (j:=6) (x:= .bool b) (y:={s.aCO[k] with open_:=b}) h.aCO m qe (by rintro r ⟨rfl,p⟩;exact⟨rfl,p⟩);have f:w.grownBy (w.setCell ⟨g,k * 7+6,none⟩ (.bool b)) (some g):=by
  have h1:=aI (w:=w) (g:=g) (i:=k * 7+6) (.bool b);exact⟨h1.os,h1.tape,h1.output,h1.size,fun i l o=>h1.block i l (fun e=>o (by rw[e]))⟩
 exact h.aC6 f a (fun b d=> .inl d)
theorem bC.insert(h:bC K base w s L ro vc vr vn vo vt vu vk vb)(E:k<=L.length){xs cs:List Value}(J:w.ownsRow base 52 5 vc L.length xs/\aX (dY base K w (fun b=>(K b\/base<=b)/\b<w.heap.size/\some b≠vc.ownBlock)) xs L)
 {x:Mix}(I:dY base K w (fun b=>(K b\/base<=b)/\b<w.heap.size/\some b≠vc.ownBlock) cs x)(H:x.2.2.isSome=true){m:Nat}(hm:∀j (hj:j<L.length),(∀b,bO L[j].2.1=some b->b<m)/\(∀b,bO L[j].2.2=some b->b<m))(h1:∀b,bO x.2.1=some b->m<=b)(h2:∀b,bO x.2.2=some b->m<=b)(p:∀b,K b->m<=b->bO x.2.1≠some b/\bO x.2.2≠some b)
 {A:oD}{f:Nat}(G:w'.ownsRow base 52 5 (.slice A (L.length+1) f) (L.length+1) (xs.take (k * 5)++cs++xs.drop (k * 5)))(D:w.grownBy w' vc.ownBlock)(q:∀b,(Value.slice A (L.length+1) f).ownBlock=some b->vc.ownBlock=some b\/w.heap.size<=b)
 (t:∀b,bO x.2.1=some b\/bO x.2.2=some b->some b≠vc.ownBlock):
 bC K base w' {s with aCK:=s.aCK.take k++[x.1]++s.aCK.drop k} (L.take k++[x]++L.drop k) ro (.slice A (L.length+1) f) vr vn vo vt vu vk vb:=by
 have d:=cV D;have l:∀b,K b->some b≠vc.ownBlock:=fun b a=>(h.kept b a).2.1
 have y:(L.take k++[x]++L.drop k).length=L.length+1:=by simp only[aL,List.length_take,List.length_drop,List.length_cons,List.length_nil];omega
 have F:∀b,(K b\/base<=b)/\b<w.heap.size/\some b≠vc.ownBlock->b<w.heap.size->(K b\/base<=b)/\b<w'.heap.size/\some b≠(Value.slice A (L.length+1) f).ownBlock:=fun b a _=>⟨a.1,lL a.2.1 d.size,fun e=>by
  rcases q b e.symm with h3|h3
  .exact a.2.2 h3.symm
  .have:=a.2.1;omega⟩
 have C:∀r z,(z=x\/∃j,∃hj:j<L.length,z=L[j])->dY base K w (fun b=>(K b\/base<=b)/\b<w.heap.size/\some b≠vc.ownBlock) r z->dY base K w' (fun b=>(K b\/base<=b)/\b<w'.heap.size/\some b≠(Value.slice A (L.length+1) f).ownBlock) r z:=fun r z v g=>by
  refine zS g d l (fun b a=> ?_) (fun b a=> ?_) F
  .rcases v with rfl|⟨j,hj,rfl⟩
   .exact t b (.inl a)
   .obtain⟨u,_,_,_,h5⟩:=h.aDq hj a;exact h5
  .rcases v with rfl|⟨j,hj,rfl⟩
   .exact t b (.inr a)
   .obtain⟨u,_,_,_,h5⟩:=h.aDr hj a;exact h5
 have B:aX (dY base K w (fun b=>(K b\/base<=b)/\b<w.heap.size/\some b≠vc.ownBlock)) (xs.take (k * 5)++cs++xs.drop (k * 5)) (L.take k++[x]++L.drop k):=by
  have h3:=J.2.split (fun r x g=>(dP base K).len g) k E;exact(h3.1.append (aX.one I)).append h3.2
 have o:∀i (c:i<(L.take k++[x]++L.drop k).length),(L.take k++[x]++L.drop k)[i]=x\/∃j,∃hj:j<L.length,(L.take k++[x]++L.drop k)[i]=L[j]:=fun i c=>by
  have h3:=List.getElem_mem c
  rcases List.mem_append.1 h3 with h4|h4
  .rcases List.mem_append.1 h4 with h5|h5
   .obtain⟨j,hj,e⟩:=List.getElem_of_mem (List.mem_of_mem_take h5);exact .inr ⟨j,hj,e.symm⟩
   .exact .inl (by simpa using h5)
  .obtain⟨j,hj,e⟩:=List.getElem_of_mem (List.mem_of_mem_drop h4);exact .inr ⟨j,hj,e.symm⟩
 refine {aCR:=h.aCR,aCW:=h.aCW,all:= ?_,aDd:=fun j hj=> ?_,apart:=He h.apart hm h1 h2,aCK:=⟨_,by rw[y];exact G,aX.aDp (fun i c r g=>C r _ (o i c) g) B⟩,aCO:=h.aCO.stays cT d (fun b a=>dS h.aCO h.aCK qe a) (fun _ h _=>h.elim),aCS:=h.aCS.stays dZ d (fun b a=>dS h.aCS h.aCK qe a) (fun _ h _=>h.elim),aCX:=h.aCX.aDm dA d l (fun b e=>by obtain⟨u,h2,h3⟩:=h.rol e;exact dS h3 h.aCK qe h2) (fun _ h _=>h),aCL:=h.aCL.aCT (d.mono fun b _ a=>l b a),kept:=fun b a=>⟨lL (h.kept b a).1 d.size,fun e=> ?_,(h.kept b a).2.2⟩,aDe:=fun j hj=> ?_,size:=lT h.size d.size}
 .rw[List.map_append,List.map_append,List.map_take,List.map_drop,h.all];rfl
 .rcases o j hj with e|⟨i,c,e⟩
  .rw[e];exact H
  .rw[e];exact h.aDd i c
 .rcases q b e.symm with h3|h3
  .exact l b a h3.symm
  .have:=(h.kept b a).1;omega
 .rcases o j hj with e|⟨i,c,e⟩
  .rw[e];exact⟨fun b a n=>(p b n (h1 b a)).1 a,fun b a n=>(p b n (h2 b a)).2 a⟩
  .rw[e];exact h.aDe i c
end
end Go.Proofs.YtgoanbpcdhmfkaaGreatDoor
