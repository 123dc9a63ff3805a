/- Lemmas. -/
import Derived.Test.YtkglnboglppgnaaGreatDoorMbk
import Derived.Test.YtkglnboglppgnaaGreatDoorMbd
namespace Go.Proofs.YtkglnboglppgnaaGreatDoor
open Go.RowKit
set_option linter.unusedVariables false
set_option linter.unusedSimpArgs false
set_option maxHeartbeats 16000000
open _root_.Go.Proofs.Tryz
set_option maxRecDepth 20000
def Qs(n:Nat):Prop:=∀(m:Nat) (ok b:nP) (p:Po) (vt vr vk vo a:Value) (g:List Gv) (w:World),JH n p->fP m w b p vt vr vk vo->aI jQ w ok a g->
 Calls prog 148 #[.agg #[.string p.id,.bool p.set,.int .i64 p.alg,vt,vr,vk,vo],a] w (nA (dG g n p) w)
theorem WG(n:Nat)(hn:n<=3)(IH:Qs n):Qs (n+1):=by
 intro lv ok b5 p vt vr vk vo vg g w bl hp h;obtain⟨ga,gc,rfl,_⟩:=h.slice;obtain⟨ta,tc,rfl,_⟩:=hp.2.2.1.slice;obtain⟨ra,rc,rfl,_⟩:=hp.2.2.2.1.slice;obtain⟨ka,kc,rfl,_⟩:=hp.2.2.2.2.1.slice;obtain⟨oa,oc,rfl,_⟩:=hp.2.2.2.2.2.slice;obtain⟨HP,HS,bt,F⟩:=dJ hp h IH bl;obtain⟨o1,a6⟩:∃o1:Obj,o1=.cells (kK p ta tc ra rc ka kc oa oc) 38:=⟨_,rfl⟩;obtain⟨o2,a7⟩:∃o2:Obj,o2=.cells #[.complex .f64 0 0,.slice none 0 0] 113:=⟨_,rfl⟩;obtain⟨W0,ag⟩:=xE ((w.alloc o1).alloc o2);have P:=aA (ag▸LI w o1 o2:Kp w w.heap.size (w.heap.size+1) o1 o2 W0);rw[a6,a7] at ag;obtain⟨b0,bu,bw,aq⟩:=dJ ag a6 a7 (Aa _ p.aDe _ g W0 (hp.2.2.1.on aT P.o.1) (h.on cA P.o.1));obtain⟨t,ht⟩:∃t,xS g p.aDe=t:=⟨_,rfl⟩;rw[ht] at aq;have bz:Hid (t<=2):=aA (ht▸Ax g p.aDe);have O:Hid (dG g (n+1) p=if t=0 then ((0,0),[]) else rL p.alg p.aDj t (p.aC6.map (iE g)++p.aDh.map (dG g n))):=aA (by unfold dG;simp only[ht]);obtain⟨J,hJ⟩:∃J,dG g (n+1) p=J:=⟨_,rfl⟩;rw[hJ] at O ⊢;have PB:=aA (by have h:=P.o.2.1;rw[bu.o] at h;exact h:W0.heap[w.heap.size]? =some (.cells (kK p ta tc ra rc ka kc oa oc) 38 (0,0)));have RB:=aA (by have h:=P.o.2.2;rw[bw.o] at h;exact h:W0.heap[w.heap.size+1]? =some (.cells #[.complex .f64 0 0,.slice none 0 0] 113 (0,0)));have b9:=uF;clear h hp ag a6 a7 bl IH hJ ht;go_enter func148,ntmps148;go_wp2_with fail;rw[<-b0.o];refine aq.o.mono ?_;rintro e j ⟨rfl,ae⟩;obtain⟨E,ab,ay⟩:=bA (P.o.on ae) (aF PB.o ae) (aF RB.o ae);clear aq ae;obtain⟨⟨v0,v1,v2,v3,v4,v5,v6⟩,q0,q1,q2,q3,q4,q5,q6⟩:=bL ab.o;have zv:=aE ab.o;by_cases af:t=0
 .have b3:((t:Int)==0)=true:=bQ.2 qo;have HJ2:=aA (by have h:=O.o;rwa [iP af] at h:J=((0,0),[]));obtain⟨⟨u0,u1⟩,f0,f1⟩:=fM ay.o;have zu:=aE ay.o;have HBW:=aA E.o.1;clear O af;exact QCI
 have b3:((t:Int)==0)=false:=bN.2 qo;have HJ2:=aA (by have h:=O.o;rwa [iN af] at h:J=rL p.alg p.aDj t (p.aC6.map (iE g)++p.aDh.map (dG g n)));clear O af;go_wp2;go_loopw [6,21] (fun v i wr=>∃(k:Nat) (H:oD) (I:Nat),k<=p.aC6.length/\i=.int .i64 k/\v=.slice H k I/\Hid (aN Kv 2 113 wr j.heap.size (fun b=>j.heap.size<=b) (.slice H k I) ((p.aC6.take k).map (iE g)))/\Hid (Below j.heap.size j wr)) (fun _ i _=>p.aC6.length - (intOf i).toNat)
 case atStart=>exact⟨0,none,0,qo,rfl,rfl,aA aN.nil,aA (Below.refl _ _)⟩
 case round=>
  obtain⟨k,H,I,hk,rfl,rfl,l,c⟩:=hrel;by_cases A:k<p.aC6.length
  .have a1:(k:Int)<(p.aC6.length:Int):=qo;obtain⟨b,off,rr,rfl,_,b4,⟨b7,ca,b6,rfl,Z⟩,W⟩:=aI.at bP ((HP.o.2.2.2.1.inb bP).on bP (aC E.o.1 c.o)) A qe;obtain⟨aj,ak,rfl,_⟩:=Z.2.1.slice;obtain⟨b1,b2,rfl,_⟩:=Z.2.2.1.slice;obtain⟨ah,ai,rfl,_⟩:=Z.2.2.2.slice;obtain⟨x0,x1,x2,x3,x4⟩:=JV W;rw[Nat.add_zero] at x0;have HTF:Hid ((p.aC6.take k).map (iE g)++[iE g p.aC6[k]]=(p.aC6.take (k+1)).map (iE g)):=aA (by rw[List.take_succ_eq_append_getElem A,List.map_append];rfl);obtain⟨Q,S,b8,R,T⟩:=gG (show ((p.aC6.take k).map (iE g)).length=k by rw[List.length_map,List.length_take];omega) (IC g p.aC6[k]) c.o.size (show p.aC6.length<=16 from F.o.1) Z;clear W Z;generalize p.aC6[k]=r at *;have z:=aA (aB wr (.cells #[.string r.id,.bool r.aDE,.slice aj r.aDe.length ak,.slice b1 r.cond.length b2,.slice ah r.aDj.length ai] 269));obtain⟨f,C,M⟩:=bA (Kt r _ _ _ _ g _ (T.o.aDc (aK z.o)) (HS.o.on cA (aC E.o.1 (aC c.o z.o)))) (l.o.on kN z.o) (aC c.o z.o);unfold nA at f;obtain⟨a,aa⟩:∃a,iE g r=a:=⟨_,rfl⟩;rw[aa] at f HTF S;clear l c T aa;go_wp2_with fail;refine f.o.mono ?_;rintro e d ⟨bq,rfl,x,s⟩;obtain⟨m,o,rfl,_⟩:=x.slice;have B:=qB M s;obtain⟨al,au,N,ao,D⟩:=gG (aC B.o (aB d (.cells #[.complex .f64 (Cm.qb a.1.1) (Cm.qb a.1.2),.slice m a.2.length o] 113))) (aM d (.cells #[.complex .f64 (Cm.qb a.1.1) (Cm.qb a.1.2),.slice m a.2.length o] 113) d.heap.size qs) (C.o.on kN (aC s (aB d (.cells #[.complex .f64 (Cm.qb a.1.1) (Cm.qb a.1.2),.slice m a.2.length o] 113)))) C.o.lt (x.inb aQ);have aw:=aA (aI.more aQ (aI.on aQ D.o (aB d (.cells #[.complex .f64 (Cm.qb a.1.1) (Cm.qb a.1.2),.slice m a.2.length o] 113))) (ok':=fun b=>j.heap.size<=b/\b<(d.alloc (.cells #[.complex .f64 (Cm.qb a.1.1) (Cm.qb a.1.2),.slice m a.2.length o] 113)).heap.size/\some b≠(Value.slice H k I).ownBlock) (fun b q=>⟨lT M.o.size q.1,by have:=q.2;rw[World.size_alloc];omega,fun e=>absurd (ao.o b e.symm).2 (Nat.not_lt.2 q.1)⟩))
   clear f C D x s;go_wp2_with (at_builtin;refine cD (base:=j.heap.size) Zd kN rfl (.tmp 25) (.tmp 29) rfl _ ((p.aC6.take k).map (iE g)) rfl N.o d.heap.size 1 _ _ _ a rfl au.o ⟨_,rfl,S.o,aw.o⟩ (by rw[Q.o];have:=R.o;omega) qo (by have:=B.o.size;rw[World.size_alloc];omega) ?_;intro l' Y A' c2 w9 U X az;have HG9:=aA U;have HB9:=aA (N.o.below al.o X (lR _) (by have:=B.o.size;rw[World.size_alloc];omega));have HL9:=aA Y.o;clear U X az Y)
   have e9:l'.length=k+1:=by rw[HL9.o,aL,Q.o];rfl
   exact QBV
  .have a1:¬(k:Int)<(p.aC6.length:Int):=qo;obtain rfl:k=p.aC6.length:=qo;obtain⟨wo,rfl⟩:∃wo:World,wo=wr:=⟨_,rfl⟩;rw[List.take_of_length_le (lR _)] at l;obtain⟨y,ad⟩:∃y,p.aC6.map (iE g)=y:=⟨_,rfl⟩;have bb:Hid (y.length=p.aC6.length):=aA (by rw[<-ad,List.length_map]);rw[ad] at l HJ2;have bc:=aA ad;have a8:Hid (aN Kv 2 113 wo j.heap.size (fun b=>j.heap.size<=b) (.slice H p.aC6.length I) (y++(p.aDh.take 0).map (dG g n))):=aA (by have:=l.o;rw[List.take_zero,List.map_nil,List.append_nil];exact this);obtain⟨ax,R,an⟩:=bA (aF ab.o c.o) (show p.aC6.length<=16 from F.o.1) (show p.aDh.length<=16 from F.o.2.1);clear v0 v1 v2 v3 v4 v5 v6 q0 q1 q2 q3 q4 q5 q6 zv ad l A hk;obtain⟨⟨v0,v1,v2,v3,v4,v5,v6⟩,q0,q1,q2,q3,q4,q5,q6⟩:=bL ax.o;have zv:=aE ax.o;go_wp2;go_loopw [6,35] (fun v i wr=>∃(k L:Nat) (a2:oD) (c2:Nat),k<=p.aDh.length/\i=.int .i64 k/\v=.slice a2 L c2/\Hid (L=p.aC6.length+k)/\Hid (aN Kv 2 113 wr j.heap.size (fun b=>j.heap.size<=b) (.slice a2 L c2) (y++(p.aDh.take k).map (dG g n)))/\Hid (Below j.heap.size j wr)) (fun _ i _=>p.aDh.length - (intOf i).toNat)
   case atStart=>exact⟨0,p.aC6.length,H,I,qo,rfl,rfl,aA rfl,a8,c⟩
   case round=>
    clear a8 c ax;obtain⟨k,L,a2,c2,hk,rfl,rfl,ar,l,c⟩:=hrel;by_cases A:k<p.aDh.length
    .have a1:(k:Int)<(p.aDh.length:Int):=qo;obtain⟨b,off,rr,rfl,_,b4,bk,W⟩:=aI.at (bD lv) ((HP.o.2.2.2.2.1.inb (bD lv)).on (bD lv) (aC E.o.1 c.o)) A qe
     rcases lv with _|lv
     .exact bk.elim
     obtain⟨b7,cc,cb,b6,rfl,K⟩:=bk;obtain⟨aj,ak,rfl,_⟩:=K.2.2.1.slice;obtain⟨bo,bp,rfl,_⟩:=K.2.2.2.1.slice;obtain⟨bm,bn,rfl,_⟩:=K.2.2.2.2.1.slice;obtain⟨ah,ai,rfl,_⟩:=K.2.2.2.2.2.slice;obtain⟨x0,x1,x2,x3,x4,x5,x6⟩:=BO W;rw[Nat.add_zero] at x0;have HTF:Hid ((y++(p.aDh.take k).map (dG g n))++[dG g n p.aDh[k]]=y++(p.aDh.take (k+1)).map (dG g n)):=aA (by rw[List.take_succ_eq_append_getElem A,List.map_append,List.append_assoc];rfl);obtain⟨Q,S,bx⟩:=bA (show (y++(p.aDh.take k).map (dG g n)).length=L by rw[ar.o,aL,bb.o,List.length_map,List.length_take];omega) (uR g n p.aDh[k]) (F.o.2.2.2.2 p.aDh[k] (List.getElem_mem A));clear W;generalize p.aDh[k]=r at *;have T:Hid (fP lv wr (fun b=>b5 b/\b<w.heap.size) r (.slice aj r.aDe.length ak) (.slice bo r.aC6.length bp) (.slice bm r.aDh.length bn) (.slice ah r.aDj.length ai)):=aA K;clear K;have z:=aA (aB wr (.cells (kK r aj ak bo bp bm bn ah ai) 38));obtain⟨f,C,M⟩:=bA (bt.o lv _ _ r _ _ _ _ _ g _ bx.o (T.o.aDc (aK z.o)) (HS.o.on cA (aC E.o.1 (aC c.o z.o)))) (l.o.on kN z.o) (aC c.o z.o);unfold nA at f;obtain⟨a,aa⟩:∃a,dG g n r=a:=⟨_,rfl⟩;rw[aa] at f HTF S;clear l c T aa;go_wp2_with fail;refine f.o.mono ?_;rintro e d ⟨bq,rfl,x,s⟩;obtain⟨m,o,rfl,_⟩:=x.slice;have B:=qB M s;obtain⟨al,au,N,ao,D⟩:=gG (aC B.o (aB d (.cells #[.complex .f64 (Cm.qb a.1.1) (Cm.qb a.1.2),.slice m a.2.length o] 113))) (aM d (.cells #[.complex .f64 (Cm.qb a.1.1) (Cm.qb a.1.2),.slice m a.2.length o] 113) d.heap.size qs) (C.o.on kN (aC s (aB d (.cells #[.complex .f64 (Cm.qb a.1.1) (Cm.qb a.1.2),.slice m a.2.length o] 113)))) C.o.lt (x.inb aQ)
     have aw:=aA (aI.more aQ (aI.on aQ D.o (aB d (.cells #[.complex .f64 (Cm.qb a.1.1) (Cm.qb a.1.2),.slice m a.2.length o] 113))) (ok':=fun b=>j.heap.size<=b/\b<(d.alloc (.cells #[.complex .f64 (Cm.qb a.1.1) (Cm.qb a.1.2),.slice m a.2.length o] 113)).heap.size/\some b≠(Value.slice a2 L c2).ownBlock) (fun b q=>⟨lT M.o.size q.1,by have:=q.2;rw[World.size_alloc];omega,fun e=>absurd (ao.o b e.symm).2 (Nat.not_lt.2 q.1)⟩));clear f C D x s;go_wp2_with (at_builtin;refine cD (base:=j.heap.size) Zd kN rfl (.tmp 39) (.tmp 43) rfl _ (y++(p.aDh.take k).map (dG g n)) rfl N.o d.heap.size 1 _ _ _ a rfl au.o ⟨_,rfl,S.o,aw.o⟩ (by rw[Q.o,ar.o];have:=R.o;have:=an.o;omega) qo (by have:=B.o.size;rw[World.size_alloc];omega) ?_;intro l' Y A' c3 w9 U X az;have HG9:=aA U;have HB9:=aA (N.o.below al.o X (lR _) (by have:=B.o.size;rw[World.size_alloc];omega));have HL9:=aA Y.o;clear U X az Y)
     have bs:Hid (l'.length=p.aC6.length+(k+1)):=aA (by rw[HL9.o,aL,Q.o,ar.o];rfl);go_roundw
     case rel=>exact⟨k+1,l'.length,A',c3,qo,by go_num,rfl,bs,aA (by have:=HG9.o;rw[HTF.o] at HL9;rw[<-HL9.o];exact this),HB9⟩
     case measure=>simp[intOf];omega
    .have a1:¬(k:Int)<(p.aDh.length:Int):=qo;obtain rfl:k=p.aDh.length:=qo;obtain⟨wp,rfl⟩:∃wp:World,wp=wr:=⟨_,rfl⟩;rw[List.take_of_length_le (lR _)] at l;obtain⟨G,V⟩:∃G,y++p.aDh.map (dG g n)=G:=⟨_,rfl⟩;have av:Hid (G.length=p.aC6.length+p.aDh.length):=aA (by rw[<-V,aL,bb.o,List.length_map]);have bd:Hid ((G.map (·.2.length)).sum<=900000):=aA (by rw[<-V,<-bc.o];exact Qr hn g F.o);have ba:Hid (J=rL p.alg p.aDj t G):=aA (by have h:=HJ2.o;rw[V] at h;exact h);rw[V] at l;have bf:=aA (l.o.sl (by rw[av.o];have:=R.o;have:=an.o;omega) (fun _=>True) (fun _ _ _=>trivial) (fun _ _ _=>trivial) kN);have HBW:=aA (aC E.o.1 c.o);have f:=aA (Kz p _ _ _ _ t bz.o _ G wp (fP.aDc (fP.inb HP.o) (aK HBW.o)) bf.o bd.o (qA F.o.2.2.1) (by rw[av.o];have:=R.o;have:=an.o;omega));rw[<-ba.o] at f;have bg:=qK ab c.o;have bh:=qK ay c.o;unfold nA at f;clear V l HJ2 ba bc bd av bf c A hk v0 v1 v2 v3 v4 v5 v6 q0 q1 q2 q3 q4 q5 q6 zv;obtain⟨⟨v0,v1,v2,v3,v4,v5,v6⟩,q0,q1,q2,q3,q4,q5,q6⟩:=bL bg.o;have zv:=aE bg.o;go_wp2_with fail;refine f.o.mono ?_;rintro e d ⟨bq,rfl,x,s⟩;obtain⟨m,o,rfl,_⟩:=x.slice;obtain⟨bj,D,br,be⟩:=dJ (aF bh.o s) x (aC HBW.o s) (aE bh.o);clear v0 v1 v2 v3 v4 v5 v6 q0 q1 q2 q3 q4 q5 q6 zv x s f;obtain⟨⟨u0,u1⟩,f0,f1⟩:=fM bj.o;have zu:=aE bj.o;go_wp2;refine bR (.agg #[.complex .f64 (Cm.qb J.1.1) (Cm.qb J.1.2),.slice m J.2.length o]) ?_;exact⟨_,rfl,aI.more aQ (aI.aDc aQ D.o (((aJ (g:=w.heap.size+1) (i:=0) _).trans (aJ (g:=w.heap.size+1) (i:=1) _)).mono fun k hk q=>by have h1:wp.heap.size<=k:=q;have h2:=be.o;show k≠w.heap.size+1;omega)) (fun b q=>by have h1:wp.heap.size<=b:=q;have h2:=be.o;show w.heap.size<=b;omega),nZ br.o (Nat.le_succ _)⟩
theorem ID:∀n,n<=4->Qs n
 |0,_=>fun _ _ _ _ _ _ _ _ _ _ _ h=>h.elim
 |n+1,h=>WG n qo (ID n qo)
def LR(r:(Mk×List Ob)×Int)(w:World)(e:Ending)(w':World):Prop:=∃vo,e=.returned (.tuple #[.agg #[.complex .f64 (Cm.qb r.1.1.1) (Cm.qb r.1.1.2),vo],.int .i64 r.2])/\aI jX w' (fun b=>w.heap.size<=b) vo r.1.2/\Below w.heap.size w w'
theorem Ba{r:(Mk×List Ob)×Int}{a b:Nat}{i:Int}{w w':World}(c:r=(((a,b),[]),i))(h:Below w.heap.size w w'){x y:Nat}(d:Cm.qb a=x)(e:Cm.qb b=y):LR r w (.returned (.tuple #[.agg #[.complex .f64 x y,.slice none 0 0],.int .i64 i])) w':=by
 subst c d e;exact⟨_,rfl,aI.nil,h⟩
theorem Le{lv:Nat}{ok aa:nP}(p:Po)(vt vr vk vo R:Value)(g:List Gv)(w:World)(hp:fP lv w aa p vt vr vk vo)(h:aI jQ w ok R g):
 Calls prog 90 #[.agg #[.string p.id,.bool p.set,.int .i64 p.alg,vt,vr,vk,vo],R] w (LR (rM g p) w):=by
 obtain⟨ga,gc,rfl,_⟩:=h.slice;obtain⟨P,Q,rfl,_⟩:=hp.2.2.1.slice;obtain⟨ra,rc,rfl,_⟩:=hp.2.2.2.1.slice;obtain⟨L,M,rfl,_⟩:=hp.2.2.2.2.1.slice;obtain⟨N,O,rfl,_⟩:=hp.2.2.2.2.2.slice;have V:=aA hp;have X:=aA h;obtain⟨d,y⟩:∃d:Obj,d=.cells (kK p P Q ra rc L M N O) 38:=⟨_,rfl⟩;obtain⟨f,z⟩:∃f:Obj,f=.cells #[.complex .f64 0 0,.slice none 0 0] 113:=⟨_,rfl⟩;obtain⟨W0,r⟩:=xE ((w.alloc d).alloc f);have m:=aA (r▸LI w d f:Kp w w.heap.size (w.heap.size+1) d f W0);rw[y,z] at r;obtain⟨Z,T,U,s⟩:=dJ r y z (sB p _ _ _ _ W0 (fP.aDc hp.inb (aK m.o.1)));obtain⟨t,q⟩:∃t,fO p=t:=⟨_,rfl⟩;rw[q] at s;have c:Hid (rM g p=if t≠0 then (((0,0),[]),1) else (dG g 4 p,0)):=aA (by unfold rM;rw[q]);obtain⟨J,K⟩:∃J,rM g p=J:=⟨_,rfl⟩;rw[K] at c ⊢;obtain⟨W,PB,RB⟩:=bA q (by have h:=m.o.2.1;rw[T.o] at h;exact h:W0.heap[w.heap.size]? =some (.cells (kK p P Q ra rc L M N O) 38 (0,0))) (by have h:=m.o.2.2;rw[U.o] at h;exact h:W0.heap[w.heap.size+1]? =some (.cells #[.complex .f64 0 0,.slice none 0 0] 113 (0,0)));have af:=uF;clear h hp r y z K q;go_enter func90,ntmps90;go_wp2_with fail;rw[<-Z.o];refine s.o.mono ?_;rintro e C ⟨rfl,o⟩;obtain⟨E,G,n⟩:=bA (m.o.on o) (aF PB.o o) (aF RB.o o);clear s o;obtain⟨⟨v0,v1,v2,v3,v4,v5,v6⟩,q0,q1,q2,q3,q4,q5,q6⟩:=bL G.o;have zv:=aE G.o;by_cases B:t=0
 .subst B;have l:=aA (by have h:=c.o;rwa [iN qo] at h:J=(dG g 4 p,0));have a:=aA E.o.1;have j:=aA (ID 4 (lR _) lv _ _ p _ _ _ _ _ g C (LP W.o) (fP.aDc (fP.inb V.o) (aK a.o)) (X.o.on cA a.o));obtain⟨D,I⟩:∃D,dG g 4 p=D:=⟨_,rfl⟩;rw[I] at j l;unfold nA at j;clear c I;go_wp2_with fail;refine j.o.mono ?_;rintro e w3 ⟨ag,rfl,A,x⟩;obtain⟨ab,ad,rfl,_⟩:=A.slice;obtain⟨H,Y,S,F⟩:=dJ (aF n.o x) A (aC a.o x) (aE n.o);clear v0 v1 v2 v3 v4 v5 v6 q0 q1 q2 q3 q4 q5 q6 zv A x j;obtain⟨⟨u0,u1⟩,f0,f1⟩:=fM H.o;have zu:=aE H.o;go_wp2;refine bR (.tuple #[.agg #[.complex .f64 (Cm.qb D.1.1) (Cm.qb D.1.2),.slice ab D.2.length ad],.int .i64 0]) ?_;rw[l.o];exact⟨_,rfl,aI.more aQ (aI.aDc aQ Y.o (((aJ (g:=w.heap.size+1) (i:=0) _).trans (aJ (g:=w.heap.size+1) (i:=1) _)).mono fun k hk v=>by have h1:C.heap.size<=k:=v;have h2:=F.o;show k≠w.heap.size+1;omega)) (fun b v=>by have h1:C.heap.size<=b:=v;have h2:=F.o;show w.heap.size<=b;omega),nZ S.o (Nat.le_succ _)⟩
 .have l:=aA (by have h:=c.o;rwa [iP B] at h:J=(((0,0),[]),1));have ae:(t==0)=false:=bN.2 B;obtain⟨⟨u0,u1⟩,f0,f1⟩:=fM n.o;have zu:=aE n.o;have a:=aA E.o.1;clear c;go_wp2;refine bR (.tuple #[.agg #[.complex .f64 0 0,.slice none 0 0],.int .i64 1]) ?_;exact Ba l.o (nZ a.o (Nat.le_succ _)) rfl rfl
def sF(m:Ma):Bool:=decide (m.op=1)&& !m.aDs.aDB
theorem Lf{t:Ta}{k:Nat}(a:k<t.length)(h:t[k].length≠1):pV (t.drop k)=pV (t.drop (k+1)):=by
 rw[List.drop_eq_getElem_cons a];unfold pV;rw[List.filter_cons_of_neg (by simpa using h)]
theorem Lg{t:Ta}{k:Nat}(a:k<t.length)(h:t[k].length=1):pV (t.drop k)=match ((t[k].head?).getD []).find? sF with |some m=>some m|none=>pV (t.drop (k+1)):=by
 rw[List.drop_eq_getElem_cons a];unfold pV;rw[List.filter_cons_of_pos (by simpa using h),List.findSome?_cons];have e:(fun m:Ma=>decide (m.op=1)&& !m.aDs.aDB)=sF:=rfl;rw[e]
 cases ((t[k].head?).getD []).find? sF<;>rfl
theorem Lh{l:List Ma}{j:Nat}(hj:j<l.length):(l.drop j).find? sF=if sF l[j]=true then some l[j] else (l.drop (j+1)).find? sF:=by
 rw[List.drop_eq_getElem_cons hj,List.find?_cons]
 cases sF l[j]<;>rfl
theorem Li(g:List Gv)(k:Po):nX g k=match pV k.aDe with |none=>true |some m=>decide (oP g m≠0):=rfl
theorem QCW{p:Prop}(h:p:=by
 go_wp2;go_roundw
 case rel=>exact⟨q+1,qo,by go_num,HE,HB3⟩
 case measure=>simp[intOf];omega):p:=h
def FH(o:Option Ma)(w:World)(e:Ending)(w':World):Prop:=∃m:Ma,e=.returned (.tuple #[kQ m,.bool o.isSome])/\(∀x,o=some x->m=x/\tT x)/\Below w.heap.size w w'
theorem Wf{m:Ma}{o:Option Ma}(h:some m=o){w w':World}(hm:tT m)(b:Below w.heap.size w w'):FH o w (.returned (.tuple #[.agg #[.int .i64 m.aDs.cat,.string m.aDs.name,.bool m.aDs.aDB,.int .i64 m.op,.int .i64 m.val.1,.int .i64 m.val.2.1,.string m.val.2.2],.bool true])) w':=by
 subst h;exact⟨m,rfl,fun x a=>by injection a with a;subst a;exact⟨rfl,hm⟩,b⟩
theorem Qt{o:Option Ma}(h:none=o){w w':World}(a:Below w.heap.size w w'):FH o w (.returned (.tuple #[.agg #[.int .i64 0,.string ⟨#[]⟩,.bool false,.int .i64 0,.int .i64 0,.int .i64 0,.string ⟨#[]⟩],.bool false])) w':=by
 subst h;exact⟨⟨⟨0,⟨#[]⟩,false⟩,0,0,0,⟨#[]⟩⟩,rfl,(fun x b=>by cases b),a⟩
def Tn(F K:Option Ma):Option Ma:=match F with |some m=>some m|none=>K
theorem Lj{W w:World}{g:Nat}{a b c d e f h:Value}(j:Below W.heap.size W w)(i:W.heap.size<=g):Below W.heap.size W (((((((w.setCell ⟨g,0,none⟩ a).setCell ⟨g,1,none⟩ b).setCell ⟨g,2,none⟩ c).setCell ⟨g,3,none⟩ d).setCell ⟨g,4,none⟩ e).setCell ⟨g,5,none⟩ f).setCell ⟨g,6,none⟩ h):=
 ((((((j.setCell i _).setCell i _).setCell i _).setCell i _).setCell i _).setCell i _).setCell i _
theorem Wg{ok:nP}(vt:Value)(t:Ta)(w:World)(h:oB w ok vt t):Calls prog 192 #[vt] w (FH (pV t) w):=by
 obtain⟨ta,tc,rfl,_⟩:=h.slice;obtain⟨J,R⟩:∃J,pV t=J:=⟨_,rfl⟩;have Y:Hid (pV (t.drop 0)=J):=aA (by rw[List.drop_zero];exact R);rw[R];obtain⟨W0,z⟩:=xE (w.alloc (.cells Ad 281));have W:Hid (Below w.heap.size w W0):=aA (by rw[z];exact aB _ _);have PB:Hid (W0.heap[w.heap.size]? =some (.cells Ad 281 (0,0))):=aA (by rw[z];exact aM _ _ _ rfl);have HS:Hid (oB W0 ok (.slice ta t.length tc) t):=aA (aI.on aT h (by rw[z];exact aB _ _));have ae:=aA z;clear h R z;go_enter func192,ntmps192;go_wp2;rw[<-ae.o];go_loopw [5,7,10] (fun _ _ i wr=>∃k:Nat,k<=t.length/\i=.int .i64 k/\Hid (pV (t.drop k)=J)/\Hid (Below W0.heap.size W0 wr)) (fun _ _ i _=>t.length - (intOf i).toNat)
 case atStart=>exact⟨0,Nat.zero_le _,rfl,Y,aA (Below.refl _ _)⟩
 case round=>
  clear Y;obtain⟨x,rfl⟩:∃x:World,x=wr:=⟨_,rfl⟩;obtain⟨k,hk,rfl,v,s⟩:=hrel;have P:=qK PB s.o;by_cases S:k<t.length
  .have af:(k:Int)<(t.length:Int):=qo;obtain⟨b,off,r,rfl,_,ak,⟨vx,rfl,K⟩,f⟩:=aI.at aT (HS.o.on aT s.o) S qe;have B:=f 0 _ rfl;rw[Nat.add_zero,Nat.mul_one] at B;by_cases H:t[k].length=1
   .have d:=aA ((Lg S H).symm.trans v.o);have O:=aA K;clear f v K;generalize t[k]=l at *;obtain⟨L,rfl⟩:=List.length_eq_one_iff.1 H;obtain⟨U,V,rfl⟩:∃U V,vx=.slice U 1 V:=by obtain⟨a,c,e,_⟩:=O.o.slice;exact⟨a,c,e⟩
    obtain⟨b2,ai,r2,rfl,_,al,⟨vy,rfl,T⟩,f⟩:=aI.at dP (k:=0) O.o qs qe;obtain⟨E,G,ah,aj⟩:∃E G,vy=.slice E L.length G/\L.length<=1000000:=by obtain⟨a,c,e,h⟩:=T.slice;exact⟨a,c,e,h⟩
    subst ah;have y0:x.cell? ⟨b2,ai,none⟩=some (.slice E L.length G):=by have:=f 0 _ rfl;simp only[Nat.add_zero,Nat.zero_mul] at this;exact this
    have HL:Hid (aI rN x ok (.slice E L.length G) L):=aA T;obtain⟨F,Q⟩:∃F,L.find? sF=F:=⟨_,rfl⟩;have X:Hid ((L.drop 0).find? sF=F):=aA (by rw[List.drop_zero];exact Q);have C:Hid (Tn F (pV (t.drop (k+1)))=J):=aA (by have h:Tn (L.find? sF) (pV (t.drop (k+1)))=J:=d.o;rw[Q] at h;exact h);clear f d O T H Q;go_wp2;clear B y0;go_loopw [7,21] (fun _ i wr=>∃q:Nat,q<=L.length/\i=.int .i64 q/\Hid ((L.drop q).find? sF=F)/\Hid (Below x.heap.size x wr)) (fun _ i _=>L.length - (intOf i).toNat)
    case atStart=>exact⟨0,Nat.zero_le _,rfl,X,aA (Below.refl _ _)⟩
    case round=>
     clear X;obtain⟨q,hq,rfl,D,y⟩:=hrel;by_cases ab:q<L.length
     .have ag:(q:Int)<(L.length:Int):=qo;obtain⟨b3,ar,r3,rfl,_,an,⟨rfl,aa⟩,f⟩:=aI.at eR (HL.o.on eR y.o) ab qe;obtain⟨B,x1,x2,x3,x4,x5,x6⟩:=BO f;rw[Nat.add_zero] at B;have d:=aA ((Lh ab).symm.trans D.o);have ad:=aA aa;clear f D aa;generalize L[q]=m at *;obtain⟨⟨g,j,M⟩,A,n,o,p⟩:=m;dsimp only at B x1 x2 x3 x4 x5 x6;obtain⟨Z,N,HB3⟩:=bA (aF (aF P.o y.o) (aB wr (.cells #[.int .i64 g,.string j,.bool M,.int .i64 A,.int .i64 n,.int .i64 o,.string p] 281))) (aC (aC (aC W.o s.o) y.o) (aB wr (.cells #[.int .i64 g,.string j,.bool M,.int .i64 A,.int .i64 n,.int .i64 o,.string p] 281))) (aC y.o (aB wr (.cells #[.int .i64 g,.string j,.bool M,.int .i64 A,.int .i64 n,.int .i64 o,.string p] 281)));by_cases I:A=1
      .subst I
       cases M
       .have HE:Hid (some (⟨⟨g,j,false⟩,1,n,o,p⟩:Ma)=J):=aA (by
         have h1:F=some ⟨⟨g,j,false⟩,1,n,o,p⟩:=by rw[<-d.o];rfl
         have:=C.o;rw[h1] at this;exact this)
        clear d C;obtain⟨⟨s0,s1,s2,s3,s4,s5,s6⟩,f0,f1,f2,f3,f4,f5,f6⟩:=bL Z.o;have zs:=aE Z.o;go_wp2;refine bR (.tuple #[.agg #[.int .i64 g,.string j,.bool false,.int .i64 1,.int .i64 n,.int .i64 o,.string p],.bool true]) ?_;exact Wf (m:=⟨⟨g,j,false⟩,1,n,o,p⟩) HE.o ad.o (Lj N.o (lR _))
       .have HE:Hid ((L.drop (q+1)).find? sF=F):=aA d.o;clear d;exact QCW
      .have aq:(A==1)=false:=bN.2 I;have HE:Hid ((L.drop (q+1)).find? sF=F):=aA (by have:=d.o;rwa [iN (by unfold sF;simp[I])] at this);clear d I;exact QCW
     .have ag:¬(q:Int)<(L.length:Int):=qo;obtain rfl:q=L.length:=qo;have HE:Hid (pV (t.drop (k+1))=J):=aA (by
       have h1:F=none:=by rw[<-D.o,List.drop_length];rfl
       have:=C.o;rw[h1] at this;exact this)
      clear D C;go_wp2;go_roundw
      case rel=>exact⟨k+1,qo,by go_num,HE,aA (aC s.o y.o)⟩
      case measure=>simp[intOf];omega
   .obtain⟨U,V,rfl,_⟩:=K.slice;have HE:=aA ((Lf S H).symm.trans v.o);clear f v K;generalize t[k]=l at *;have ao:¬(l.length:Int)=1:=qo;go_wp2;go_roundw
    case rel=>exact⟨k+1,qo,by go_num,HE,s⟩
    case measure=>simp[intOf];omega
  .have af:¬(k:Int)<(t.length:Int):=qo;obtain rfl:k=t.length:=qo;have HE:Hid (none=J):=aA (by rw[<-v.o,List.drop_length];rfl);have N:=qB W s.o;clear v;obtain⟨⟨s0,s1,s2,s3,s4,s5,s6⟩,f0,f1,f2,f3,f4,f5,f6⟩:=bL P.o;have zs:=aE P.o;go_wp2;refine bR (.tuple #[.agg #[.int .i64 0,.string ⟨#[]⟩,.bool false,.int .i64 0,.int .i64 0,.int .i64 0,.string ⟨#[]⟩],.bool false]) ?_;exact Qt HE.o (Lj N.o (lR _))
theorem QCc{p:Prop}(h:p:=by
 exact⟨k+1,l'.length,A',c2,qo,by go_num,rfl,aA (by rw[HL9.o,HE.o]),aA (by have h:=HG9.o;have e:=HL9.o.trans HE.o.symm;subst e;exact h),HB9⟩):p:=h
def Zf(n:Nat):List Value:=[.int .i64 (n:Int)]
def Qu:Rep Nat:=mM Zf (fun _=>True)
theorem tP:Firm Qu 1:=gH (fun _=>rfl) (fun x v h=>by simp only[Zf,List.mem_cons,List.not_mem_nil,or_false] at h;rw[h];rfl)
theorem elN:dY prog 233 3 1 8:=fS (z:= .int .i64 0) underlying233 (by kernel_rfl) rfl qe
def gB(g:List Gv)(l:List Po)(k:Nat):List Nat:=(List.range k).filter (fun i=>match l[i]? with |some x=>nX g x|none=>false)
theorem LS{g:List Gv}{l:List Po}{k:Nat}(a:k<l.length):gB g l (k+1)=if nX g l[k]=true then gB g l k++[k] else gB g l k:=by
 unfold gB;rw[List.range_succ,List.filter_append];simp only[List.filter_cons,List.filter_nil,gE a];split<;>simp
theorem QC(g:List Gv)(l:List Po)(k:Nat):(gB g l k).length<=k:=by
 have:=List.length_filter_le (fun i=>match l[i]? with |some x=>nX g x|none=>false) (List.range k);rw[List.length_range] at this;exact this
theorem Qv{g:List Gv}{l:List Po}{k i:Nat}(h:i∈gB g l k):i<k:=by
 unfold gB at h;exact List.mem_range.1 (List.mem_filter.1 h).1
theorem QD{α:Type}{g:List Gv}{l:List Po}(f:Po->α)(d:Nat->α)(b:∀i (h:i<l.length),d i=f l[i]):∀k,k<=l.length->(gB g l k).map d=((l.take k).filter (nX g)).map f
 |0,_=>rfl
 |k+1,h=>by
  have a:k<l.length:=qo;rw[LS a,List.take_succ_eq_append_getElem a,List.filter_append,List.map_append,<-QD f d b k qo];by_cases hm:nX g l[k]=true
  .rw[iP hm,List.map_append];simp[hm,b k a]
  .rw[iN hm];simp[hm]
def WH(L:List Nat)(w:World)(e:Ending)(w':World):Prop:=∃v,e=.returned v/\aI Qu w' (fun b=>w.heap.size<=b) v L/\Below w.heap.size w w'
theorem Qw{n:Nat}{ok aq:nP}(vk vg:Value)(kids:List Po)(g:List Gv)(w:World)(E:aI (qE n) w aq vk kids)(h:aI jQ w ok vg g):Calls prog 149 #[vk,vg] w (WH (gB g kids kids.length) w):=by
 obtain⟨ka,kc,rfl,aj⟩:=E.slice;obtain⟨ga,gc,rfl,_⟩:=h.slice;obtain⟨HP,HS,K⟩:=bA E h aj;clear E h;go_enter func149,ntmps149;go_wp2;go_loopw [5,6,7,8,9,12] (fun v _ _ _ _ i wr=>∃(k y:Nat) (C:oD) (D:Nat),k<=kids.length/\i=.int .i64 k/\v=.slice C y D/\Hid (y=(gB g kids k).length)/\Hid (aN Qu 1 3 wr w.heap.size (fun b=>w.heap.size<=b) (.slice C y D) (gB g kids k))/\Hid (Below w.heap.size w wr)) (fun _ _ _ _ _ i _=>kids.length - (intOf i).toNat)
 case atStart=>exact Su
 case round=>
  obtain⟨k,y,C,D,E,rfl,rfl,Z,I,F⟩:=hrel;have O:=aA (QC g kids k);by_cases ae:k<kids.length
  .have ai:(k:Int)<(kids.length:Int):=qo;obtain⟨b,off,rr,rfl,_,ax,ad,hc⟩:=aI.at (bD n) (aI.on (bD n) HP.o F.o) ae qe
   rcases n with _|lv
   .exact ad.elim
   obtain⟨bb,ba,a7,a8,rfl,j⟩:=ad;obtain⟨av,aw,rfl,_⟩:=j.2.2.1.slice;obtain⟨ar,au,rfl,_⟩:=j.2.2.2.1.slice;obtain⟨ak,al,rfl,_⟩:=j.2.2.2.2.1.slice;obtain⟨an,ao,rfl,_⟩:=j.2.2.2.2.2.slice;obtain⟨x0,x1,x2,x3,x4,x5,x6⟩:=BO hc;rw[Nat.add_zero] at x0;have a:=aA (LS (g:=g) ae);have Y:=aA (Li g kids[k]);clear hc;generalize kids[k]=r at *;have ab:=aA j.2.2.1;clear j;rw[Y.o] at a;clear Y;have B:=aA (aB wr (.cells (kK r av aw ar au ak al an ao) 38));obtain⟨H,X,V⟩:=bA (Wg _ r.aDe _ (aI.on aT ab.o B.o)) (I.o.on tP B.o) (aC F.o B.o);clear ab I;generalize pV r.aDe=ky at *;unfold FH at H;go_wp2_with fail;refine H.o.mono ?_;rintro e U ⟨m,rfl,hm,d⟩;unfold kQ;have W:=qB V d;obtain⟨c,f,M⟩:=bA (aC W.o (aB U (.cells (JY m) 281))) (X.o.on tP (aC d (aB U (.cells (JY m) 281)))) hm;clear H X V B d hm x0 x1 x2 x3 x4 x5 x6
   rcases ky with _|m2
   .have HE:Hid (gB g kids (k+1)=gB g kids k++[k]):=aA (by have:=a.o;rwa [iP rfl] at this);clear a M;obtain⟨p,T⟩:=xE (U.alloc (.cells (JY m) 281));rw[<-T] at c f;have ah:=aA T;clear T;go_upto_region 7 with (fail)
    rw[<-ah.o];obtain⟨N,G,o⟩:=bA (aM p (.cells #[.int .i64 (k:Int)] 3) p.heap.size qs) (aC c.o (aB p (.cells #[.int .i64 (k:Int)] 3))) (f.o.on tP (aB p (.cells #[.int .i64 (k:Int)] 3)));clear f;go_wp2_with (at_builtin;refine cD (base:=w.heap.size) elN tP rfl (.tmp 31) (.tmp 33) rfl _ (gB g kids k) rfl o.o p.heap.size 1 _ _ _ k rfl N.o ⟨rfl,trivial⟩ (qD O.o K.o) qo (by have:=c.o.size;rw[World.size_alloc];omega) ?_;intro l' x A' c2 w9 s t P;have HG9:=aA s;have HB9:=aA (o.o.below G.o t (lR _) (by have:=c.o.size;rw[World.size_alloc];omega));have HL9:=aA x.o;clear s t P x)
    go_roundw
    case rel=>exact QCc
    case measure=>simp[intOf];omega
   .obtain⟨rfl,R⟩:=M.o m2 rfl;have l:=aA (KG m R _ g _ (aI.on cA HS.o c.o));unfold aP at l;have aa:Hid (gB g kids (k+1)=if decide (oP g m≠0)=true then gB g kids k++[k] else gB g kids k):=aA a.o;clear a;have a:=aa;clear aa;generalize oP g m=q at *;have af:=aA R;obtain⟨⟨mc,mn,mm⟩,mo,az,a1,a6⟩:=m;unfold kQ at l;dsimp only at l c f ⊢;clear M R W;go_wp2_with fail;refine l.o.mono ?_;rintro e z ⟨rfl,d⟩;have A:=qB c d;have J:=aA (f.o.on tP d);clear l c f d af;by_cases S:q=0
    .subst S;have HE:Hid (gB g kids (k+1)=gB g kids k):=aA (by have:=a.o;rwa [iN qe] at this);clear a;go_wp2;go_roundw
     case rel=>exact⟨k+1,y,C,D,qo,by go_num,rfl,aA (by rw[Z.o,HE.o]),aA (by rw[HE.o];exact J.o),A⟩
     case measure=>simp[intOf];omega
    .have ay:((q:Int)==0)=false:=bN.2 qo;have HE:Hid (gB g kids (k+1)=gB g kids k++[k]):=aA (by have:=a.o;rwa [iP (dX S)] at this);clear a S;obtain⟨N,G,o⟩:=bA (aM z (.cells #[.int .i64 (k:Int)] 3) z.heap.size qs) (aC A.o (aB z (.cells #[.int .i64 (k:Int)] 3))) (J.o.on tP (aB z (.cells #[.int .i64 (k:Int)] 3)));clear J;go_wp2_with (at_builtin;refine cD (base:=w.heap.size) elN tP rfl (.tmp 31) (.tmp 33) rfl _ (gB g kids k) rfl o.o z.heap.size 1 _ _ _ k rfl N.o ⟨rfl,trivial⟩ (qD O.o K.o) qo (by have:=A.o.size;rw[World.size_alloc];omega) ?_;intro l' x A' c2 w9 s t P;have HG9:=aA s;have HB9:=aA (o.o.below G.o t (lR _) (by have:=A.o.size;rw[World.size_alloc];omega));have HL9:=aA x.o;clear s t P x)
     go_roundw
     case rel=>exact QCc
     case measure=>simp[intOf];omega
  .have ai:¬(k:Int)<(kids.length:Int):=qo;obtain rfl:k=kids.length:=qo;have ag:=aA (I.o.sl (qD O.o K.o) (fun b=>w.heap.size<=b) (fun b Q _=>Q) (fun b Q _=>Q) tP);generalize gB g kids kids.length=L at *;obtain rfl:=Z.o;go_wp2;go_returns;exact⟨_,rfl,ag.o,F.o⟩
theorem aCM:dY prog 35 38 7 128:=fS (z:= .agg #[.string ByteArray.empty,.bool false,.int .i64 0,.slice none 0 0,.slice none 0 0,.slice none 0 0,.slice none 0 0]) underlying35 (by kernel_rfl) rfl qe
theorem Qx{ok:nP}{w:World}{g i:Nat}{v:Value}(h:¬ok g):aO ok w (w.setCell ⟨g,i,none⟩ v):=(aJ v).mono fun k _ a (e:k=g)=>h (e▸a)
def NN(lv:Nat)(a:nP)(g:List Gv)(m:Nat)(p:Po)(vt vr vo:Value)(w:World)(e:Ending)(w':World):Prop:=∃vk,e=.returned (.agg #[.string p.id,.bool p.set,.int .i64 p.alg,vt,vr,vk,vo])/\aI (qE lv) w' (fun b=>a b\/w.heap.size<=b) vk ((p.aDh.filter (nX g)).map (kV g m))/\Below w.heap.size w w'
def Qy(lv:Nat):Prop:=∀(m:Nat),lv<=m->∀(ok a:nP) (p:Po) (vt vr vk vo b:Value) (g:List Gv) (w:World),fP lv w a p vt vr vk vo->aI jQ w ok b g->
 Calls prog 91 #[.agg #[.string p.id,.bool p.set,.int .i64 p.alg,vt,vr,vk,vo],b] w (NN lv a g m p vt vr vo w)
theorem QE(g:List Gv)(m:Nat)(r:Po):kV g (m+1) r=.mk r.id r.set r.alg r.aDe r.aC6 ((r.aDh.filter (nX g)).map (kV g m)) r.aDj:=rfl
theorem IE(lv:Nat)(IH:∀l,lv=l+1->Qy l):Qy lv:=by
 intro m hm ok s p vt vr vk vo vg g w hp h;obtain⟨ga,gc,rfl,_⟩:=h.slice;obtain⟨ta,tc,rfl,_⟩:=hp.2.2.1.slice;obtain⟨ra,rc,rfl,_⟩:=hp.2.2.2.1.slice;obtain⟨ka,kc,rfl,bt⟩:=hp.2.2.2.2.1.slice;obtain⟨oa,oc,rfl,_⟩:=hp.2.2.2.2.2.slice;obtain⟨W0,I⟩:=xE ((w.alloc (.cells (kK p ta tc ra rc ka kc oa oc) 38)).alloc (.cells wF 38));have Z:Hid (Below w.heap.size w W0):=aA (by rw[I];exact aC (aB _ _) (aB _ _));have A:Hid (W0.heap[w.heap.size]? =some (.cells (kK p ta tc ra rc ka kc oa oc) 38 (0,0))):=aA (by rw[I];exact aF (aM _ _ _ rfl) (aB _ _));have R:Hid (W0.heap[w.heap.size+1]? =some (.cells wF 38 (0,0))):=aA (by rw[I];exact aM _ _ _ qs);have bm:=aA I;have bk:Hid (W0.heap.size=w.heap.size+1+1):=aA (by rw[I];simp);obtain⟨HP,HS,bb,HM,aa⟩:=gG hp.inb h IH hm (Qw _ _ p.aDh g W0 (aI.on (bD lv) hp.2.2.2.2.1 Z.o) (h.on cA Z.o));have bh:=aA (fun i (hi:i∈gB g p.aDh p.aDh.length)=>Qv hi);obtain⟨d,hd⟩:∃d:Nat->Po,d=fun i=>kV g m ((p.aDh[i]?).getD mD):=⟨_,rfl⟩
 have HD:Hid (∀i (h:i<p.aDh.length),d i=kV g m p.aDh[i]):=aA (fun i h=>by rw[hd];dsimp only;rw[gE h];rfl);have K:=aA (QD (g:=g) (kV g m) d HD.o p.aDh.length (lR _));rw[List.take_of_length_le (lR _)] at K;have bc:=aA (QC g p.aDh p.aDh.length);unfold WH at aa;generalize gB g p.aDh p.aDh.length=L at *;obtain⟨T,ae⟩:∃T,(p.aDh.filter (nX g)).map (kV g m)=T:=⟨_,rfl⟩;rw[ae] at K;have bg:=aA ae;obtain⟨⟨a0,U,a2,a3,a4,a5,V⟩,_⟩:=bL A.o;have Y:=aE A.o;have bo:L.length<=1000000:=lT bc.o bt;clear h hp I IH hm hd ae;go_enter func91,ntmps91;go_wp2_with fail;rw[<-bm.o];refine aa.o.mono ?_;rintro e w1 ⟨v,rfl,ag,j⟩;obtain⟨la,lc,rfl,_⟩:=ag.slice;obtain⟨ah,M,HL⟩:=bA (aC Z.o j) (lT (Nat.le_of_eq bk.o.symm) j.size) ag;clear a0 U a2 a3 a4 a5 V Y;replace A:=qK A j;obtain⟨⟨A0,A1,A2,A3,A4,A5,A6⟩,_⟩:=bL A.o;have zA:=aE A.o;replace R:=qK R j;obtain⟨⟨R0,R1,R2,R3,R4,R5,R6⟩,_⟩:=bL R.o;have zR:=aE R.o;clear j aa ag;go_wp2;go_loopw [5,7,13] (fun v _ i wr=>∃(k f:Nat) (C:oD) (D:Nat),k<=L.length/\i=.int .i64 k/\v=.slice C f D/\Hid (f=k)/\Hid (aN (qE lv) 7 38 wr w1.heap.size (fun b=>(s b/\b<w.heap.size)\/w1.heap.size<=b) (.slice C f D) ((L.take k).map d))/\Hid (Below w1.heap.size w1 wr)) (fun _ _ i _=>L.length - (intOf i).toNat)
 case atStart=>exact Su
 case round=>
  obtain⟨k,f,C,D,hk,rfl,rfl,bd,J,G⟩:=hrel;clear A0 A1 A2 A3 A4 A5 A6 zA R0 R1 R2 R3 R4 R5 R6 zR;have P:=qK A G.o;by_cases af:k<L.length
  .have bs:(k:Int)<(L.length:Int):=qo;obtain⟨b,off,rr,rfl,_,bz,⟨rfl,_⟩,N⟩:=aI.at tP (aI.on tP HL.o G.o) af qe;have y0:=N 0 _ rfl;rw[Nat.add_zero,Nat.mul_one] at y0;have ak:=aA (bh.o L[k] (List.getElem_mem af));have ar:Hid ((L.take k).map d++[d L[k]]=(L.take (k+1)).map d):=aA (by rw[List.take_succ_eq_append_getElem af,List.map_append];rfl);have an:=aA (show ((L.take k).map d).length=k by rw[List.length_map,List.length_take];omega);have ad:=aA (HD.o L[k] ak.o);have bp:L[k]<p.aDh.length:=ak.o;clear N;generalize L[k]=q at *;have b8:(q:Int)<(p.aDh.length:Int):=qo;have S:=qB ah G.o;obtain⟨b3,b9,ca,rfl,_,b7,av,N⟩:=aI.at (bD lv) (aI.on (bD lv) HP.o.2.2.2.2.1 S.o) bp qe
   rcases lv with _|lv
   .exact av.elim
   obtain⟨cg,cf,cb,cd,rfl,H⟩:=av;obtain⟨y,z,rfl,_⟩:=H.2.2.1.slice;obtain⟨t,x,rfl,_⟩:=H.2.2.2.1.slice;obtain⟨bw,bx,rfl,_⟩:=H.2.2.2.2.1.slice;obtain⟨n,o,rfl,_⟩:=H.2.2.2.2.2.slice;obtain⟨x0,x1,x2,x3,x4,x5,x6⟩:=BO N;rw[Nat.add_zero] at x0;obtain⟨m2,rfl⟩:∃m2,m=m2+1:=⟨m - 1,qA HM.o⟩;have aq:Hid (fP lv wr (fun b=>s b/\b<w.heap.size) p.aDh[q] (.slice y p.aDh[q].aDe.length z) (.slice t p.aDh[q].aC6.length x) (.slice bw p.aDh[q].aDh.length bx) (.slice n p.aDh[q].aDj.length o)):=aA H;have ab:=aA (bb.o lv rfl m2 (qA HM.o) _ _ p.aDh[q] _ _ _ _ _ g wr H (HS.o.on cA S.o));have bn:=aA (QE g m2 p.aDh[q]);clear N H;generalize p.aDh[q]=r at *;rw[bn.o] at ad;unfold NN at ab;obtain⟨⟨a0,U,a2,a3,a4,a5,V⟩,_⟩:=bL P.o;have Y:=aE P.o;go_wp2_with fail;refine ab.o.mono ?_;rintro e B ⟨cc,rfl,W,j⟩;obtain⟨E,F,rfl,bu⟩:=W.slice;obtain⟨a,bq⟩:∃a,(r.aDh.filter (nX g)).map (kV g m2)=a:=⟨_,rfl⟩;rw[bq] at W bu ad ⊢;have ay:=qB G j;obtain⟨Q,bf,ai⟩:=bA (aC ay.o (aB B (.cells #[.string r.id,.bool r.set,.int .i64 r.alg,.slice y r.aDe.length z,.slice t r.aC6.length x,.slice E a.length F,.slice n r.aDj.length o] 38))) (aM B (.cells #[.string r.id,.bool r.set,.int .i64 r.alg,.slice y r.aDe.length z,.slice t r.aC6.length x,.slice E a.length F,.slice n r.aDj.length o] 38) B.heap.size qs) (aC j (aB B (.cells #[.string r.id,.bool r.set,.int .i64 r.alg,.slice y r.aDe.length z,.slice t r.aC6.length x,.slice E a.length F,.slice n r.aDj.length o] 38)));obtain⟨aj,ao,bl⟩:=bA (J.o.on (bD (lv+1)) ai.o) J.o.lt G.o.size;have a8:Hid (qE (lv+1) (B.alloc (.cells #[.string r.id,.bool r.set,.int .i64 r.alg,.slice y r.aDe.length z,.slice t r.aC6.length x,.slice E a.length F,.slice n r.aDj.length o] 38)) (fun b=>((s b/\b<w.heap.size)\/w1.heap.size<=b)/\b<(B.alloc (.cells #[.string r.id,.bool r.set,.int .i64 r.alg,.slice y r.aDe.length z,.slice t r.aC6.length x,.slice E a.length F,.slice n r.aDj.length o] 38)).heap.size/\some b≠(Value.slice C f D).ownBlock) [.string r.id,.bool r.set,.int .i64 r.alg,.slice y r.aDe.length z,.slice t r.aC6.length x,.slice E a.length F,.slice n r.aDj.length o] (.mk r.id r.set r.alg r.aDe r.aC6 a r.aDj)):=aA (by
    have O:=aq.o.aDc (aK ai.o);have X:∀b,(s b/\b<w.heap.size)->((s b/\b<w.heap.size)\/w1.heap.size<=b)/\b<(B.alloc (.cells #[.string r.id,.bool r.set,.int .i64 r.alg,.slice y r.aDe.length z,.slice t r.aC6.length x,.slice E a.length F,.slice n r.aDj.length o] 38)).heap.size/\some b≠(Value.slice C f D).ownBlock:=fun b c=>⟨.inl c,by have h1:=c.2;have h2:=Q.o.size;have h3:=M.o;omega,fun e=>absurd (ao.o b e.symm).1 (by have h1:=c.2;have h3:=M.o;omega)⟩
    refine⟨_,_,_,_,rfl,O.1,O.2.1,aI.more aT O.2.2.1 X,aI.more bP O.2.2.2.1 X,?_,aI.more aQ O.2.2.2.2.2 X⟩;refine aI.more (bD lv) (aI.inb (bD lv) (aI.on (bD lv) W (aB B (.cells #[.string r.id,.bool r.set,.int .i64 r.alg,.slice y r.aDe.length z,.slice t r.aC6.length x,.slice E a.length F,.slice n r.aDj.length o] 38)))) fun b c=> ?_
    rcases c.1 with h1|h1
    .exact X b h1
    .exact⟨.inr (lT bl.o h1),c.2,fun e=>absurd (ao.o b e.symm).2 (Nat.not_lt.2 h1)⟩)
   clear ab J aq W j a0 U a2 a3 a4 a5 V Y x0 x1 x2 x3 x4 x5 x6;go_wp2_with (at_builtin;refine cD (base:=w1.heap.size) aCM (bD (lv+1)) rfl (.tmp 17) (.tmp 25) rfl _ ((L.take k).map d) rfl aj.o B.heap.size 1 _ _ _ (.mk r.id r.set r.alg r.aDe r.aC6 a r.aDj) rfl bf.o a8.o (by rw[an.o];omega) qo Q.o.size ?_;intro l' ax A' c2 w9 hG aw br;have ba:=aA hG;have az:=aA (aj.o.below Q.o aw (lR _) Q.o.size);have al:=aA ax.o;clear hG aw br ax)
   have a7:Hid (l'.length=k+1):=aA (by rw[al.o,aL,an.o];rfl);go_roundw
   case rel=>exact⟨k+1,l'.length,A',c2,qo,by go_num,rfl,a7,aA (by have h:=ba.o;rw[ad.o] at ar;have e:=al.o.trans ar.o;subst e;exact h),az⟩
   case measure=>simp[intOf];omega
  .have bs:¬(k:Int)<(L.length:Int):=qo;obtain rfl:k=L.length:=qo;have be:Hid (f=T.length):=aA (by rw[bd.o,<-K.o,List.length_map]);have bj:Hid (aI (qE lv) wr (fun b=>(s b/\b<w.heap.size)\/w1.heap.size<=b) (.slice C f D) T):=aA (by
    have h:=J.o;rw[List.take_of_length_le (lR _),K.o] at h;have e:=be.o;subst e;exact h.sl (by rw[<-K.o,List.length_map];exact bo) _ (fun b c _=>c) (fun b c _=> .inr c) (bD lv))
   have S:=qB ah G.o;have au:=qK R G.o;clear J;obtain⟨⟨a0,U,a2,a3,a4,a5,V⟩,b0,b1,b2,b3,b4,b5,b6⟩:=bL P.o;have Y:=aE P.o;obtain⟨⟨r0,r1,r2,r3,r4,r5,r6⟩,f0,f1,f2,f3,f4,f5,f6⟩:=bL au.o;have zr:=aE au.o;go_wp2;refine bR (.agg #[.string p.id,.bool p.set,.int .i64 p.alg,.slice ta p.aDe.length tc,.slice ra p.aC6.length rc,.slice C f D,.slice oa p.aDj.length oc]) ?_;have hA:¬((s w.heap.size/\w.heap.size<w.heap.size)\/w1.heap.size<=w.heap.size):=fun h=>by have h3:=M.o;rcases h with h|h<;>omega
   have hR:¬((s (w.heap.size+1)/\w.heap.size+1<w.heap.size)\/w1.heap.size<=w.heap.size+1):=fun h=>by have h3:=M.o;rcases h with h|h<;>omega
   refine⟨.slice C f D,rfl,?_,?_⟩
   .rw[bg.o];refine aI.more (bD lv) (ok:=fun b=>(s b/\b<w.heap.size)\/w1.heap.size<=b) ?_ (fun b c=>c.elim (fun h=> .inl h.1) (fun h=> .inr (by have h3:=M.o;omega)))
    repeat (refine aI.aDc (bD lv) ?_ (Qx (by first|exact hA|exact hR)))
    exact bj.o
   .repeat (refine Below.setCell ?_ (by first|exact lR _|exact Nat.le_succ _) _)
    exact S.o
theorem LU:∀lv,Qy lv
 |0=>IE 0 (fun l h=>by omega)
 |lv+1=>IE (lv+1) (fun l h=>by obtain rfl:lv=l:=qo
                               exact LU lv)
end Go.Proofs.YtkglnboglppgnaaGreatDoor
