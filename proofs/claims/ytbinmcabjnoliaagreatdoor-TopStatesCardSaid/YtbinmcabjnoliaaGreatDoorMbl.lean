/- Lemmas. -/
import Derived.Test.YtbinmcabjnoliaaGreatDoorMbk
import Derived.Test.YtbinmcabjnoliaaGreatDoorMbd
namespace Go.Proofs.YtbinmcabjnoliaaGreatDoor
open Go.RowKit
set_option linter.unusedVariables false
set_option linter.unusedSimpArgs false
set_option maxHeartbeats 16000000
open _root_.Go.Proofs.Tryz
set_option maxRecDepth 20000
def Qf(n:Nat):Prop:=∀(m:Nat) (ok b:nP) (p:Po) (vt vr vk vo a:Value) (g:List Gv) (w:World),JF n p->fN m w b p vt vr vk vo->aH jM w ok a g->
 Calls prog 149 #[.agg #[.string p.id,.bool p.set,.int .i64 p.alg,vt,vr,vk,vo],a] w (mW (dB g n p) w)
theorem VV(n:Nat)(hn:n<=3)(IH:Qf n):Qf (n+1):=by
 intro lv ok b5 p vt vr vk vo vg g w bl hp h;obtain⟨ga,gc,rfl,_⟩:=h.slice;obtain⟨ta,tc,rfl,_⟩:=hp.2.2.1.slice;obtain⟨ra,rc,rfl,_⟩:=hp.2.2.2.1.slice;obtain⟨ka,kc,rfl,_⟩:=hp.2.2.2.2.1.slice;obtain⟨oa,oc,rfl,_⟩:=hp.2.2.2.2.2.slice;obtain⟨HP,HS,bt,F⟩:=dG hp h IH bl;obtain⟨o1,a6⟩:∃o1:Obj,o1=.cells (kG p ta tc ra rc ka kc oa oc) 38:=⟨_,rfl⟩;obtain⟨o2,a7⟩:∃o2:Obj,o2=.cells #[.complex .f64 0 0,.slice none 0 0] 124:=⟨_,rfl⟩;obtain⟨W0,ag⟩:=xE ((w.alloc o1).alloc o2);have P:=aA (ag▸LG w o1 o2:Kp w w.heap.size (w.heap.size+1) o1 o2 W0);rw[a6,a7] at ag;obtain⟨b0,bu,bw,aq⟩:=dG ag a6 a7 (ZQ _ p.aC1 _ g W0 (hp.2.2.1.on aS P.o.1) (h.on bZ P.o.1));obtain⟨t,ht⟩:∃t,xP g p.aC1=t:=⟨_,rfl⟩;rw[ht] at aq;have bz:Hid (t<=2):=aA (ht▸Al g p.aC1);have O:Hid (dB g (n+1) p=if t=0 then ((0,0),[]) else rK p.alg p.aC7 t (p.aCT.map (iC g)++p.aC5.map (dB g n))):=aA (by unfold dB;simp only[ht]);obtain⟨J,hJ⟩:∃J,dB g (n+1) p=J:=⟨_,rfl⟩;rw[hJ] at O ⊢;have PB:=aA (by have h:=P.o.2.1;rw[bu.o] at h;exact h:W0.heap[w.heap.size]? =some (.cells (kG p ta tc ra rc ka kc oa oc) 38 (0,0)));have RB:=aA (by have h:=P.o.2.2;rw[bw.o] at h;exact h:W0.heap[w.heap.size+1]? =some (.cells #[.complex .f64 0 0,.slice none 0 0] 124 (0,0)));have b9:=uE;clear h hp ag a6 a7 bl IH hJ ht;go_enter func149,ntmps149;go_wp2_with fail;rw[<-b0.o];refine aq.o.mono ?_;rintro e j ⟨rfl,ae⟩;obtain⟨E,ab,ay⟩:=aY (P.o.on ae) (aE PB.o ae) (aE RB.o ae);clear aq ae;obtain⟨⟨v0,v1,v2,v3,v4,v5,v6⟩,q0,q1,q2,q3,q4,q5,q6⟩:=bJ ab.o;have zv:=aD ab.o;by_cases af:t=0
 .have b3:((t:Int)==0)=true:=bQ.2 qo;have HJ2:=aA (by have h:=O.o;rwa [iP af] at h:J=((0,0),[]));obtain⟨⟨u0,u1⟩,f0,f1⟩:=fK ay.o;have zu:=aD ay.o;have HBW:=aA E.o.1;clear O af;exact QCI
 have b3:((t:Int)==0)=false:=bN.2 qo;have HJ2:=aA (by have h:=O.o;rwa [iN af] at h:J=rK p.alg p.aC7 t (p.aCT.map (iC g)++p.aC5.map (dB g n)));clear O af;go_wp2;go_loopw [6,21] (fun v i wr=>∃(k:Nat) (H:oD) (I:Nat),k<=p.aCT.length/\i=.int .i64 k/\v=.slice H k I/\Hid (aM Kg 2 124 wr j.heap.size (fun b=>j.heap.size<=b) (.slice H k I) ((p.aCT.take k).map (iC g)))/\Hid (Below j.heap.size j wr)) (fun _ i _=>p.aCT.length - (intOf i).toNat)
 case atStart=>exact⟨0,none,0,qo,rfl,rfl,aA aM.nil,aA (Below.refl _ _)⟩
 case round=>
  obtain⟨k,H,I,hk,rfl,rfl,l,c⟩:=hrel;by_cases A:k<p.aCT.length
  .have a1:(k:Int)<(p.aCT.length:Int):=qo;obtain⟨b,off,rr,rfl,_,b4,⟨b7,ca,b6,rfl,Z⟩,W⟩:=aH.at bM ((HP.o.2.2.2.1.inb bM).on bM (aC E.o.1 c.o)) A qe;obtain⟨aj,ak,rfl,_⟩:=Z.2.1.slice;obtain⟨b1,b2,rfl,_⟩:=Z.2.2.1.slice;obtain⟨ah,ai,rfl,_⟩:=Z.2.2.2.slice;obtain⟨x0,x1,x2,x3,x4⟩:=FQ W;rw[Nat.add_zero] at x0;have HTF:Hid ((p.aCT.take k).map (iC g)++[iC g p.aCT[k]]=(p.aCT.take (k+1)).map (iC g)):=aA (by rw[List.take_succ_eq_append_getElem A,List.map_append];rfl);obtain⟨Q,S,b8,R,T⟩:=gC (show ((p.aCT.take k).map (iC g)).length=k by rw[List.length_map,List.length_take];omega) (GZ g p.aCT[k]) c.o.size (show p.aCT.length<=16 from F.o.1) Z;clear W Z;generalize p.aCT[k]=r at *;have z:=aA (aB wr (.cells #[.string r.id,.bool r.aDs,.slice aj r.aC1.length ak,.slice b1 r.cond.length b2,.slice ah r.aC7.length ai] 269));obtain⟨f,C,M⟩:=aY (Ke r _ _ _ _ g _ (T.o.aC0 (aJ z.o)) (HS.o.on bZ (aC E.o.1 (aC c.o z.o)))) (l.o.on kI z.o) (aC c.o z.o);unfold mW at f;obtain⟨a,aa⟩:∃a,iC g r=a:=⟨_,rfl⟩;rw[aa] at f HTF S;clear l c T aa;go_wp2_with fail;refine f.o.mono ?_;rintro e d ⟨bq,rfl,x,s⟩;obtain⟨m,o,rfl,_⟩:=x.slice;have B:=qB M s;obtain⟨al,au,N,ao,D⟩:=gC (aC B.o (aB d (.cells #[.complex .f64 (Cm.qb a.1.1) (Cm.qb a.1.2),.slice m a.2.length o] 124))) (aK d (.cells #[.complex .f64 (Cm.qb a.1.1) (Cm.qb a.1.2),.slice m a.2.length o] 124) d.heap.size qs) (C.o.on kI (aC s (aB d (.cells #[.complex .f64 (Cm.qb a.1.1) (Cm.qb a.1.2),.slice m a.2.length o] 124)))) C.o.lt (x.inb aP);have aw:=aA (aH.more aP (aH.on aP D.o (aB d (.cells #[.complex .f64 (Cm.qb a.1.1) (Cm.qb a.1.2),.slice m a.2.length o] 124))) (ok':=fun b=>j.heap.size<=b/\b<(d.alloc (.cells #[.complex .f64 (Cm.qb a.1.1) (Cm.qb a.1.2),.slice m a.2.length o] 124)).heap.size/\some b≠(Value.slice H k I).ownBlock) (fun b q=>⟨lT M.o.size q.1,by have:=q.2;rw[World.size_alloc];omega,fun e=>absurd (ao.o b e.symm).2 (Nat.not_lt.2 q.1)⟩))
   clear f C D x s;go_wp2_with (at_builtin;refine cC (base:=j.heap.size) Ys kI rfl (.tmp 25) (.tmp 29) rfl _ ((p.aCT.take k).map (iC g)) rfl N.o d.heap.size 1 _ _ _ a rfl au.o ⟨_,rfl,S.o,aw.o⟩ (by rw[Q.o];have:=R.o;omega) qo (by have:=B.o.size;rw[World.size_alloc];omega) ?_;intro l' Y A' c2 w9 U X az;have HG9:=aA U;have HB9:=aA (N.o.below al.o X (lR _) (by have:=B.o.size;rw[World.size_alloc];omega));have HL9:=aA Y.o;clear U X az Y)
   have e9:l'.length=k+1:=by rw[HL9.o,aL,Q.o];rfl
   exact QBV
  .have a1:¬(k:Int)<(p.aCT.length:Int):=qo;obtain rfl:k=p.aCT.length:=qo;obtain⟨wo,rfl⟩:∃wo:World,wo=wr:=⟨_,rfl⟩;rw[List.take_of_length_le (lR _)] at l;obtain⟨y,ad⟩:∃y,p.aCT.map (iC g)=y:=⟨_,rfl⟩;have bb:Hid (y.length=p.aCT.length):=aA (by rw[<-ad,List.length_map]);rw[ad] at l HJ2;have bc:=aA ad;have a8:Hid (aM Kg 2 124 wo j.heap.size (fun b=>j.heap.size<=b) (.slice H p.aCT.length I) (y++(p.aC5.take 0).map (dB g n))):=aA (by have:=l.o;rw[List.take_zero,List.map_nil,List.append_nil];exact this);obtain⟨ax,R,an⟩:=aY (aE ab.o c.o) (show p.aCT.length<=16 from F.o.1) (show p.aC5.length<=16 from F.o.2.1);clear v0 v1 v2 v3 v4 v5 v6 q0 q1 q2 q3 q4 q5 q6 zv ad l A hk;obtain⟨⟨v0,v1,v2,v3,v4,v5,v6⟩,q0,q1,q2,q3,q4,q5,q6⟩:=bJ ax.o;have zv:=aD ax.o;go_wp2;go_loopw [6,35] (fun v i wr=>∃(k L:Nat) (a2:oD) (c2:Nat),k<=p.aC5.length/\i=.int .i64 k/\v=.slice a2 L c2/\Hid (L=p.aCT.length+k)/\Hid (aM Kg 2 124 wr j.heap.size (fun b=>j.heap.size<=b) (.slice a2 L c2) (y++(p.aC5.take k).map (dB g n)))/\Hid (Below j.heap.size j wr)) (fun _ i _=>p.aC5.length - (intOf i).toNat)
   case atStart=>exact⟨0,p.aCT.length,H,I,qo,rfl,rfl,aA rfl,a8,c⟩
   case round=>
    clear a8 c ax;obtain⟨k,L,a2,c2,hk,rfl,rfl,ar,l,c⟩:=hrel;by_cases A:k<p.aC5.length
    .have a1:(k:Int)<(p.aC5.length:Int):=qo;obtain⟨b,off,rr,rfl,_,b4,bk,W⟩:=aH.at (bB lv) ((HP.o.2.2.2.2.1.inb (bB lv)).on (bB lv) (aC E.o.1 c.o)) A qe
     rcases lv with _|lv
     .exact bk.elim
     obtain⟨b7,cc,cb,b6,rfl,K⟩:=bk;obtain⟨aj,ak,rfl,_⟩:=K.2.2.1.slice;obtain⟨bo,bp,rfl,_⟩:=K.2.2.2.1.slice;obtain⟨bm,bn,rfl,_⟩:=K.2.2.2.2.1.slice;obtain⟨ah,ai,rfl,_⟩:=K.2.2.2.2.2.slice;obtain⟨x0,x1,x2,x3,x4,x5,x6⟩:=CH W;rw[Nat.add_zero] at x0;have HTF:Hid ((y++(p.aC5.take k).map (dB g n))++[dB g n p.aC5[k]]=y++(p.aC5.take (k+1)).map (dB g n)):=aA (by rw[List.take_succ_eq_append_getElem A,List.map_append,List.append_assoc];rfl);obtain⟨Q,S,bx⟩:=aY (show (y++(p.aC5.take k).map (dB g n)).length=L by rw[ar.o,aL,bb.o,List.length_map,List.length_take];omega) (uQ g n p.aC5[k]) (F.o.2.2.2.2 p.aC5[k] (List.getElem_mem A));clear W;generalize p.aC5[k]=r at *;have T:Hid (fN lv wr (fun b=>b5 b/\b<w.heap.size) r (.slice aj r.aC1.length ak) (.slice bo r.aCT.length bp) (.slice bm r.aC5.length bn) (.slice ah r.aC7.length ai)):=aA K;clear K;have z:=aA (aB wr (.cells (kG r aj ak bo bp bm bn ah ai) 38));obtain⟨f,C,M⟩:=aY (bt.o lv _ _ r _ _ _ _ _ g _ bx.o (T.o.aC0 (aJ z.o)) (HS.o.on bZ (aC E.o.1 (aC c.o z.o)))) (l.o.on kI z.o) (aC c.o z.o);unfold mW at f;obtain⟨a,aa⟩:∃a,dB g n r=a:=⟨_,rfl⟩;rw[aa] at f HTF S;clear l c T aa;go_wp2_with fail;refine f.o.mono ?_;rintro e d ⟨bq,rfl,x,s⟩;obtain⟨m,o,rfl,_⟩:=x.slice;have B:=qB M s;obtain⟨al,au,N,ao,D⟩:=gC (aC B.o (aB d (.cells #[.complex .f64 (Cm.qb a.1.1) (Cm.qb a.1.2),.slice m a.2.length o] 124))) (aK d (.cells #[.complex .f64 (Cm.qb a.1.1) (Cm.qb a.1.2),.slice m a.2.length o] 124) d.heap.size qs) (C.o.on kI (aC s (aB d (.cells #[.complex .f64 (Cm.qb a.1.1) (Cm.qb a.1.2),.slice m a.2.length o] 124)))) C.o.lt (x.inb aP)
     have aw:=aA (aH.more aP (aH.on aP D.o (aB d (.cells #[.complex .f64 (Cm.qb a.1.1) (Cm.qb a.1.2),.slice m a.2.length o] 124))) (ok':=fun b=>j.heap.size<=b/\b<(d.alloc (.cells #[.complex .f64 (Cm.qb a.1.1) (Cm.qb a.1.2),.slice m a.2.length o] 124)).heap.size/\some b≠(Value.slice a2 L c2).ownBlock) (fun b q=>⟨lT M.o.size q.1,by have:=q.2;rw[World.size_alloc];omega,fun e=>absurd (ao.o b e.symm).2 (Nat.not_lt.2 q.1)⟩));clear f C D x s;go_wp2_with (at_builtin;refine cC (base:=j.heap.size) Ys kI rfl (.tmp 39) (.tmp 43) rfl _ (y++(p.aC5.take k).map (dB g n)) rfl N.o d.heap.size 1 _ _ _ a rfl au.o ⟨_,rfl,S.o,aw.o⟩ (by rw[Q.o,ar.o];have:=R.o;have:=an.o;omega) qo (by have:=B.o.size;rw[World.size_alloc];omega) ?_;intro l' Y A' c3 w9 U X az;have HG9:=aA U;have HB9:=aA (N.o.below al.o X (lR _) (by have:=B.o.size;rw[World.size_alloc];omega));have HL9:=aA Y.o;clear U X az Y)
     have bs:Hid (l'.length=p.aCT.length+(k+1)):=aA (by rw[HL9.o,aL,Q.o,ar.o];rfl);go_roundw
     case rel=>exact⟨k+1,l'.length,A',c3,qo,by go_num,rfl,bs,aA (by have:=HG9.o;rw[HTF.o] at HL9;rw[<-HL9.o];exact this),HB9⟩
     case measure=>simp[intOf];omega
    .have a1:¬(k:Int)<(p.aC5.length:Int):=qo;obtain rfl:k=p.aC5.length:=qo;obtain⟨wp,rfl⟩:∃wp:World,wp=wr:=⟨_,rfl⟩;rw[List.take_of_length_le (lR _)] at l;obtain⟨G,V⟩:∃G,y++p.aC5.map (dB g n)=G:=⟨_,rfl⟩;have av:Hid (G.length=p.aCT.length+p.aC5.length):=aA (by rw[<-V,aL,bb.o,List.length_map]);have bd:Hid ((G.map (·.2.length)).sum<=900000):=aA (by rw[<-V,<-bc.o];exact Qe hn g F.o);have ba:Hid (J=rK p.alg p.aC7 t G):=aA (by have h:=HJ2.o;rw[V] at h;exact h);rw[V] at l;have bf:=aA (l.o.sl (by rw[av.o];have:=R.o;have:=an.o;omega) (fun _=>True) (fun _ _ _=>trivial) (fun _ _ _=>trivial) kI);have HBW:=aA (aC E.o.1 c.o);have f:=aA (Kk p _ _ _ _ t bz.o _ G wp (fN.aC0 (fN.inb HP.o) (aJ HBW.o)) bf.o bd.o (qA F.o.2.2.1) (by rw[av.o];have:=R.o;have:=an.o;omega));rw[<-ba.o] at f;have bg:=qK ab c.o;have bh:=qK ay c.o;unfold mW at f;clear V l HJ2 ba bc bd av bf c A hk v0 v1 v2 v3 v4 v5 v6 q0 q1 q2 q3 q4 q5 q6 zv;obtain⟨⟨v0,v1,v2,v3,v4,v5,v6⟩,q0,q1,q2,q3,q4,q5,q6⟩:=bJ bg.o;have zv:=aD bg.o;go_wp2_with fail;refine f.o.mono ?_;rintro e d ⟨bq,rfl,x,s⟩;obtain⟨m,o,rfl,_⟩:=x.slice;obtain⟨bj,D,br,be⟩:=dG (aE bh.o s) x (aC HBW.o s) (aD bh.o);clear v0 v1 v2 v3 v4 v5 v6 q0 q1 q2 q3 q4 q5 q6 zv x s f;obtain⟨⟨u0,u1⟩,f0,f1⟩:=fK bj.o;have zu:=aD bj.o;go_wp2;refine bR (.agg #[.complex .f64 (Cm.qb J.1.1) (Cm.qb J.1.2),.slice m J.2.length o]) ?_;exact⟨_,rfl,aH.more aP (aH.aC0 aP D.o (((aI (g:=w.heap.size+1) (i:=0) _).trans (aI (g:=w.heap.size+1) (i:=1) _)).mono fun k hk q=>by have h1:wp.heap.size<=k:=q;have h2:=be.o;show k≠w.heap.size+1;omega)) (fun b q=>by have h1:wp.heap.size<=b:=q;have h2:=be.o;show w.heap.size<=b;omega),nW br.o (Nat.le_succ _)⟩
theorem IA:∀n,n<=4->Qf n
 |0,_=>fun _ _ _ _ _ _ _ _ _ _ _ h=>h.elim
 |n+1,h=>VV n qo (IA n qo)
def LP(r:(Mk×List Ob)×Int)(w:World)(e:Ending)(w':World):Prop:=∃vo,e=.returned (.tuple #[.agg #[.complex .f64 (Cm.qb r.1.1.1) (Cm.qb r.1.1.2),vo],.int .i64 r.2])/\aH jU w' (fun b=>w.heap.size<=b) vo r.1.2/\Below w.heap.size w w'
theorem Ao{r:(Mk×List Ob)×Int}{a b:Nat}{i:Int}{w w':World}(c:r=(((a,b),[]),i))(h:Below w.heap.size w w'){x y:Nat}(d:Cm.qb a=x)(e:Cm.qb b=y):LP r w (.returned (.tuple #[.agg #[.complex .f64 x y,.slice none 0 0],.int .i64 i])) w':=by
 subst c d e;exact⟨_,rfl,aH.nil,h⟩
theorem Kn{lv:Nat}{ok aa:nP}(p:Po)(vt vr vk vo R:Value)(g:List Gv)(w:World)(hp:fN lv w aa p vt vr vk vo)(h:aH jM w ok R g):
 Calls prog 96 #[.agg #[.string p.id,.bool p.set,.int .i64 p.alg,vt,vr,vk,vo],R] w (LP (rL g p) w):=by
 obtain⟨ga,gc,rfl,_⟩:=h.slice;obtain⟨P,Q,rfl,_⟩:=hp.2.2.1.slice;obtain⟨ra,rc,rfl,_⟩:=hp.2.2.2.1.slice;obtain⟨L,M,rfl,_⟩:=hp.2.2.2.2.1.slice;obtain⟨N,O,rfl,_⟩:=hp.2.2.2.2.2.slice;have V:=aA hp;have X:=aA h;obtain⟨d,y⟩:∃d:Obj,d=.cells (kG p P Q ra rc L M N O) 38:=⟨_,rfl⟩;obtain⟨f,z⟩:∃f:Obj,f=.cells #[.complex .f64 0 0,.slice none 0 0] 124:=⟨_,rfl⟩;obtain⟨W0,r⟩:=xE ((w.alloc d).alloc f);have m:=aA (r▸LG w d f:Kp w w.heap.size (w.heap.size+1) d f W0);rw[y,z] at r;obtain⟨Z,T,U,s⟩:=dG r y z (sA p _ _ _ _ W0 (fN.aC0 hp.inb (aJ m.o.1)));obtain⟨t,q⟩:∃t,fM p=t:=⟨_,rfl⟩;rw[q] at s;have c:Hid (rL g p=if t≠0 then (((0,0),[]),1) else (dB g 4 p,0)):=aA (by unfold rL;rw[q]);obtain⟨J,K⟩:∃J,rL g p=J:=⟨_,rfl⟩;rw[K] at c ⊢;obtain⟨W,PB,RB⟩:=aY q (by have h:=m.o.2.1;rw[T.o] at h;exact h:W0.heap[w.heap.size]? =some (.cells (kG p P Q ra rc L M N O) 38 (0,0))) (by have h:=m.o.2.2;rw[U.o] at h;exact h:W0.heap[w.heap.size+1]? =some (.cells #[.complex .f64 0 0,.slice none 0 0] 124 (0,0)));have af:=uE;clear h hp r y z K q;go_enter func96,ntmps96;go_wp2_with fail;rw[<-Z.o];refine s.o.mono ?_;rintro e C ⟨rfl,o⟩;obtain⟨E,G,n⟩:=aY (m.o.on o) (aE PB.o o) (aE RB.o o);clear s o;obtain⟨⟨v0,v1,v2,v3,v4,v5,v6⟩,q0,q1,q2,q3,q4,q5,q6⟩:=bJ G.o;have zv:=aD G.o;by_cases B:t=0
 .subst B;have l:=aA (by have h:=c.o;rwa [iN qo] at h:J=(dB g 4 p,0));have a:=aA E.o.1;have j:=aA (IA 4 (lR _) lv _ _ p _ _ _ _ _ g C (LN W.o) (fN.aC0 (fN.inb V.o) (aJ a.o)) (X.o.on bZ a.o));obtain⟨D,I⟩:∃D,dB g 4 p=D:=⟨_,rfl⟩;rw[I] at j l;unfold mW at j;clear c I;go_wp2_with fail;refine j.o.mono ?_;rintro e w3 ⟨ag,rfl,A,x⟩;obtain⟨ab,ad,rfl,_⟩:=A.slice;obtain⟨H,Y,S,F⟩:=dG (aE n.o x) A (aC a.o x) (aD n.o);clear v0 v1 v2 v3 v4 v5 v6 q0 q1 q2 q3 q4 q5 q6 zv A x j;obtain⟨⟨u0,u1⟩,f0,f1⟩:=fK H.o;have zu:=aD H.o;go_wp2;refine bR (.tuple #[.agg #[.complex .f64 (Cm.qb D.1.1) (Cm.qb D.1.2),.slice ab D.2.length ad],.int .i64 0]) ?_;rw[l.o];exact⟨_,rfl,aH.more aP (aH.aC0 aP Y.o (((aI (g:=w.heap.size+1) (i:=0) _).trans (aI (g:=w.heap.size+1) (i:=1) _)).mono fun k hk v=>by have h1:C.heap.size<=k:=v;have h2:=F.o;show k≠w.heap.size+1;omega)) (fun b v=>by have h1:C.heap.size<=b:=v;have h2:=F.o;show w.heap.size<=b;omega),nW S.o (Nat.le_succ _)⟩
 .have l:=aA (by have h:=c.o;rwa [iP B] at h:J=(((0,0),[]),1));have ae:(t==0)=false:=bN.2 B;obtain⟨⟨u0,u1⟩,f0,f1⟩:=fK n.o;have zu:=aD n.o;have a:=aA E.o.1;clear c;go_wp2;refine bR (.tuple #[.agg #[.complex .f64 0 0,.slice none 0 0],.int .i64 1]) ?_;exact Ao l.o (nW a.o (Nat.le_succ _)) rfl rfl
def sE(m:Ma):Bool:=decide (m.op=1)&& !m.aDg.aDq
theorem Ko{t:Ta}{k:Nat}(a:k<t.length)(h:t[k].length≠1):pS (t.drop k)=pS (t.drop (k+1)):=by
 rw[List.drop_eq_getElem_cons a];unfold pS;rw[List.filter_cons_of_neg (by simpa using h)]
theorem Kr{t:Ta}{k:Nat}(a:k<t.length)(h:t[k].length=1):pS (t.drop k)=match ((t[k].head?).getD []).find? sE with |some m=>some m|none=>pS (t.drop (k+1)):=by
 rw[List.drop_eq_getElem_cons a];unfold pS;rw[List.filter_cons_of_pos (by simpa using h),List.findSome?_cons];have e:(fun m:Ma=>decide (m.op=1)&& !m.aDg.aDq)=sE:=rfl;rw[e]
 cases ((t[k].head?).getD []).find? sE<;>rfl
theorem Ks{l:List Ma}{j:Nat}(hj:j<l.length):(l.drop j).find? sE=if sE l[j]=true then some l[j] else (l.drop (j+1)).find? sE:=by
 rw[List.drop_eq_getElem_cons hj,List.find?_cons]
 cases sE l[j]<;>rfl
theorem Kt(g:List Gv)(k:Po):nU g k=match pS k.aC1 with |none=>true |some m=>decide (oN g m≠0):=rfl
theorem QCV{p:Prop}(h:p:=by
 go_wp2;go_roundw
 case rel=>exact⟨q+1,qo,by go_num,HE,HB3⟩
 case measure=>simp[intOf];omega):p:=h
def FB(o:Option Ma)(w:World)(e:Ending)(w':World):Prop:=∃m:Ma,e=.returned (.tuple #[kL m,.bool o.isSome])/\(∀x,o=some x->m=x/\tS x)/\Below w.heap.size w w'
theorem Vt{m:Ma}{o:Option Ma}(h:some m=o){w w':World}(hm:tS m)(b:Below w.heap.size w w'):FB o w (.returned (.tuple #[.agg #[.int .i64 m.aDg.cat,.string m.aDg.name,.bool m.aDg.aDq,.int .i64 m.op,.int .i64 m.val.1,.int .i64 m.val.2.1,.string m.val.2.2],.bool true])) w':=by
 subst h;exact⟨m,rfl,fun x a=>by injection a with a;subst a;exact⟨rfl,hm⟩,b⟩
theorem Qg{o:Option Ma}(h:none=o){w w':World}(a:Below w.heap.size w w'):FB o w (.returned (.tuple #[.agg #[.int .i64 0,.string ⟨#[]⟩,.bool false,.int .i64 0,.int .i64 0,.int .i64 0,.string ⟨#[]⟩],.bool false])) w':=by
 subst h;exact⟨⟨⟨0,⟨#[]⟩,false⟩,0,0,0,⟨#[]⟩⟩,rfl,(fun x b=>by cases b),a⟩
def Tb(F K:Option Ma):Option Ma:=match F with |some m=>some m|none=>K
theorem Ku{W w:World}{g:Nat}{a b c d e f h:Value}(j:Below W.heap.size W w)(i:W.heap.size<=g):Below W.heap.size W (((((((w.setCell ⟨g,0,none⟩ a).setCell ⟨g,1,none⟩ b).setCell ⟨g,2,none⟩ c).setCell ⟨g,3,none⟩ d).setCell ⟨g,4,none⟩ e).setCell ⟨g,5,none⟩ f).setCell ⟨g,6,none⟩ h):=
 ((((((j.setCell i _).setCell i _).setCell i _).setCell i _).setCell i _).setCell i _).setCell i _
theorem Vu{ok:nP}(vt:Value)(t:Ta)(w:World)(h:nY w ok vt t):Calls prog 192 #[vt] w (FB (pS t) w):=by
 obtain⟨ta,tc,rfl,_⟩:=h.slice;obtain⟨J,R⟩:∃J,pS t=J:=⟨_,rfl⟩;have Y:Hid (pS (t.drop 0)=J):=aA (by rw[List.drop_zero];exact R);rw[R];obtain⟨W0,z⟩:=xE (w.alloc (.cells ZT 281));have W:Hid (Below w.heap.size w W0):=aA (by rw[z];exact aB _ _);have PB:Hid (W0.heap[w.heap.size]? =some (.cells ZT 281 (0,0))):=aA (by rw[z];exact aK _ _ _ rfl);have HS:Hid (nY W0 ok (.slice ta t.length tc) t):=aA (aH.on aS h (by rw[z];exact aB _ _));have ae:=aA z;clear h R z;go_enter func192,ntmps192;go_wp2;rw[<-ae.o];go_loopw [5,7,10] (fun _ _ i wr=>∃k:Nat,k<=t.length/\i=.int .i64 k/\Hid (pS (t.drop k)=J)/\Hid (Below W0.heap.size W0 wr)) (fun _ _ i _=>t.length - (intOf i).toNat)
 case atStart=>exact⟨0,Nat.zero_le _,rfl,Y,aA (Below.refl _ _)⟩
 case round=>
  clear Y;obtain⟨x,rfl⟩:∃x:World,x=wr:=⟨_,rfl⟩;obtain⟨k,hk,rfl,v,s⟩:=hrel;have P:=qK PB s.o;by_cases S:k<t.length
  .have af:(k:Int)<(t.length:Int):=qo;obtain⟨b,off,r,rfl,_,ak,⟨vx,rfl,K⟩,f⟩:=aH.at aS (HS.o.on aS s.o) S qe;have B:=f 0 _ rfl;rw[Nat.add_zero,Nat.mul_one] at B;by_cases H:t[k].length=1
   .have d:=aA ((Kr S H).symm.trans v.o);have O:=aA K;clear f v K;generalize t[k]=l at *;obtain⟨L,rfl⟩:=List.length_eq_one_iff.1 H;obtain⟨U,V,rfl⟩:∃U V,vx=.slice U 1 V:=by obtain⟨a,c,e,_⟩:=O.o.slice;exact⟨a,c,e⟩
    obtain⟨b2,ai,r2,rfl,_,al,⟨vy,rfl,T⟩,f⟩:=aH.at dN (k:=0) O.o qs qe;obtain⟨E,G,ah,aj⟩:∃E G,vy=.slice E L.length G/\L.length<=1000000:=by obtain⟨a,c,e,h⟩:=T.slice;exact⟨a,c,e,h⟩
    subst ah;have y0:x.cell? ⟨b2,ai,none⟩=some (.slice E L.length G):=by have:=f 0 _ rfl;simp only[Nat.add_zero,Nat.zero_mul] at this;exact this
    have HL:Hid (aH rM x ok (.slice E L.length G) L):=aA T;obtain⟨F,Q⟩:∃F,L.find? sE=F:=⟨_,rfl⟩;have X:Hid ((L.drop 0).find? sE=F):=aA (by rw[List.drop_zero];exact Q);have C:Hid (Tb F (pS (t.drop (k+1)))=J):=aA (by have h:Tb (L.find? sE) (pS (t.drop (k+1)))=J:=d.o;rw[Q] at h;exact h);clear f d O T H Q;go_wp2;clear B y0;go_loopw [7,21] (fun _ i wr=>∃q:Nat,q<=L.length/\i=.int .i64 q/\Hid ((L.drop q).find? sE=F)/\Hid (Below x.heap.size x wr)) (fun _ i _=>L.length - (intOf i).toNat)
    case atStart=>exact⟨0,Nat.zero_le _,rfl,X,aA (Below.refl _ _)⟩
    case round=>
     clear X;obtain⟨q,hq,rfl,D,y⟩:=hrel;by_cases ab:q<L.length
     .have ag:(q:Int)<(L.length:Int):=qo;obtain⟨b3,ar,r3,rfl,_,an,⟨rfl,aa⟩,f⟩:=aH.at eQ (HL.o.on eQ y.o) ab qe;obtain⟨B,x1,x2,x3,x4,x5,x6⟩:=CH f;rw[Nat.add_zero] at B;have d:=aA ((Ks ab).symm.trans D.o);have ad:=aA aa;clear f D aa;generalize L[q]=m at *;obtain⟨⟨g,j,M⟩,A,n,o,p⟩:=m;dsimp only at B x1 x2 x3 x4 x5 x6;obtain⟨Z,N,HB3⟩:=aY (aE (aE P.o y.o) (aB wr (.cells #[.int .i64 g,.string j,.bool M,.int .i64 A,.int .i64 n,.int .i64 o,.string p] 281))) (aC (aC (aC W.o s.o) y.o) (aB wr (.cells #[.int .i64 g,.string j,.bool M,.int .i64 A,.int .i64 n,.int .i64 o,.string p] 281))) (aC y.o (aB wr (.cells #[.int .i64 g,.string j,.bool M,.int .i64 A,.int .i64 n,.int .i64 o,.string p] 281)));by_cases I:A=1
      .subst I
       cases M
       .have HE:Hid (some (⟨⟨g,j,false⟩,1,n,o,p⟩:Ma)=J):=aA (by
         have h1:F=some ⟨⟨g,j,false⟩,1,n,o,p⟩:=by rw[<-d.o];rfl
         have:=C.o;rw[h1] at this;exact this)
        clear d C;obtain⟨⟨s0,s1,s2,s3,s4,s5,s6⟩,f0,f1,f2,f3,f4,f5,f6⟩:=bJ Z.o;have zs:=aD Z.o;go_wp2;refine bR (.tuple #[.agg #[.int .i64 g,.string j,.bool false,.int .i64 1,.int .i64 n,.int .i64 o,.string p],.bool true]) ?_;exact Vt (m:=⟨⟨g,j,false⟩,1,n,o,p⟩) HE.o ad.o (Ku N.o (lR _))
       .have HE:Hid ((L.drop (q+1)).find? sE=F):=aA d.o;clear d;exact QCV
      .have aq:(A==1)=false:=bN.2 I;have HE:Hid ((L.drop (q+1)).find? sE=F):=aA (by have:=d.o;rwa [iN (by unfold sE;simp[I])] at this);clear d I;exact QCV
     .have ag:¬(q:Int)<(L.length:Int):=qo;obtain rfl:q=L.length:=qo;have HE:Hid (pS (t.drop (k+1))=J):=aA (by
       have h1:F=none:=by rw[<-D.o,List.drop_length];rfl
       have:=C.o;rw[h1] at this;exact this)
      clear D C;go_wp2;go_roundw
      case rel=>exact⟨k+1,qo,by go_num,HE,aA (aC s.o y.o)⟩
      case measure=>simp[intOf];omega
   .obtain⟨U,V,rfl,_⟩:=K.slice;have HE:=aA ((Ko S H).symm.trans v.o);clear f v K;generalize t[k]=l at *;have ao:¬(l.length:Int)=1:=qo;go_wp2;go_roundw
    case rel=>exact⟨k+1,qo,by go_num,HE,s⟩
    case measure=>simp[intOf];omega
  .have af:¬(k:Int)<(t.length:Int):=qo;obtain rfl:k=t.length:=qo;have HE:Hid (none=J):=aA (by rw[<-v.o,List.drop_length];rfl);have N:=qB W s.o;clear v;obtain⟨⟨s0,s1,s2,s3,s4,s5,s6⟩,f0,f1,f2,f3,f4,f5,f6⟩:=bJ P.o;have zs:=aD P.o;go_wp2;refine bR (.tuple #[.agg #[.int .i64 0,.string ⟨#[]⟩,.bool false,.int .i64 0,.int .i64 0,.int .i64 0,.string ⟨#[]⟩],.bool false]) ?_;exact Qg HE.o (Ku N.o (lR _))
theorem QCc{p:Prop}(h:p:=by
 exact⟨k+1,l'.length,A',c2,qo,by go_num,rfl,aA (by rw[HL9.o,HE.o]),aA (by have h:=HG9.o;have e:=HL9.o.trans HE.o.symm;subst e;exact h),HB9⟩):p:=h
def Yu(n:Nat):List Value:=[.int .i64 (n:Int)]
def Qh:Rep Nat:=mJ Yu (fun _=>True)
theorem tO:Firm Qh 1:=gD (fun _=>rfl) (fun x v h=>by simp only[Yu,List.mem_cons,List.not_mem_nil,or_false] at h;rw[h];rfl)
theorem elN:dV prog 234 3 1 8:=fQ (z:= .int .i64 0) underlying234 (by kernel_rfl) rfl qe
def fY(g:List Gv)(l:List Po)(k:Nat):List Nat:=(List.range k).filter (fun i=>match l[i]? with |some x=>nU g x|none=>false)
theorem LQ{g:List Gv}{l:List Po}{k:Nat}(a:k<l.length):fY g l (k+1)=if nU g l[k]=true then fY g l k++[k] else fY g l k:=by
 unfold fY;rw[List.range_succ,List.filter_append];simp only[List.filter_cons,List.filter_nil,gE a];split<;>simp
theorem PY(g:List Gv)(l:List Po)(k:Nat):(fY g l k).length<=k:=by
 have:=List.length_filter_le (fun i=>match l[i]? with |some x=>nU g x|none=>false) (List.range k);rw[List.length_range] at this;exact this
theorem Qi{g:List Gv}{l:List Po}{k i:Nat}(h:i∈fY g l k):i<k:=by
 unfold fY at h;exact List.mem_range.1 (List.mem_filter.1 h).1
theorem PZ{α:Type}{g:List Gv}{l:List Po}(f:Po->α)(d:Nat->α)(b:∀i (h:i<l.length),d i=f l[i]):∀k,k<=l.length->(fY g l k).map d=((l.take k).filter (nU g)).map f
 |0,_=>rfl
 |k+1,h=>by
  have a:k<l.length:=qo;rw[LQ a,List.take_succ_eq_append_getElem a,List.filter_append,List.map_append,<-PZ f d b k qo];by_cases hm:nU g l[k]=true
  .rw[iP hm,List.map_append];simp[hm,b k a]
  .rw[iN hm];simp[hm]
def VW(L:List Nat)(w:World)(e:Ending)(w':World):Prop:=∃v,e=.returned v/\aH Qh w' (fun b=>w.heap.size<=b) v L/\Below w.heap.size w w'
theorem Qj{n:Nat}{ok aq:nP}(vk vg:Value)(kids:List Po)(g:List Gv)(w:World)(E:aH (pY n) w aq vk kids)(h:aH jM w ok vg g):Calls prog 150 #[vk,vg] w (VW (fY g kids kids.length) w):=by
 obtain⟨ka,kc,rfl,aj⟩:=E.slice;obtain⟨ga,gc,rfl,_⟩:=h.slice;obtain⟨HP,HS,K⟩:=aY E h aj;clear E h;go_enter func150,ntmps150;go_wp2;go_loopw [5,6,7,8,9,12] (fun v _ _ _ _ i wr=>∃(k y:Nat) (C:oD) (D:Nat),k<=kids.length/\i=.int .i64 k/\v=.slice C y D/\Hid (y=(fY g kids k).length)/\Hid (aM Qh 1 3 wr w.heap.size (fun b=>w.heap.size<=b) (.slice C y D) (fY g kids k))/\Hid (Below w.heap.size w wr)) (fun _ _ _ _ _ i _=>kids.length - (intOf i).toNat)
 case atStart=>exact Sg
 case round=>
  obtain⟨k,y,C,D,E,rfl,rfl,Z,I,F⟩:=hrel;have O:=aA (PY g kids k);by_cases ae:k<kids.length
  .have ai:(k:Int)<(kids.length:Int):=qo;obtain⟨b,off,rr,rfl,_,ax,ad,hc⟩:=aH.at (bB n) (aH.on (bB n) HP.o F.o) ae qe
   rcases n with _|lv
   .exact ad.elim
   obtain⟨bb,ba,a7,a8,rfl,j⟩:=ad;obtain⟨av,aw,rfl,_⟩:=j.2.2.1.slice;obtain⟨ar,au,rfl,_⟩:=j.2.2.2.1.slice;obtain⟨ak,al,rfl,_⟩:=j.2.2.2.2.1.slice;obtain⟨an,ao,rfl,_⟩:=j.2.2.2.2.2.slice;obtain⟨x0,x1,x2,x3,x4,x5,x6⟩:=CH hc;rw[Nat.add_zero] at x0;have a:=aA (LQ (g:=g) ae);have Y:=aA (Kt g kids[k]);clear hc;generalize kids[k]=r at *;have ab:=aA j.2.2.1;clear j;rw[Y.o] at a;clear Y;have B:=aA (aB wr (.cells (kG r av aw ar au ak al an ao) 38));obtain⟨H,X,V⟩:=aY (Vu _ r.aC1 _ (aH.on aS ab.o B.o)) (I.o.on tO B.o) (aC F.o B.o);clear ab I;generalize pS r.aC1=ky at *;unfold FB at H;go_wp2_with fail;refine H.o.mono ?_;rintro e U ⟨m,rfl,hm,d⟩;unfold kL;have W:=qB V d;obtain⟨c,f,M⟩:=aY (aC W.o (aB U (.cells (JV m) 281))) (X.o.on tO (aC d (aB U (.cells (JV m) 281)))) hm;clear H X V B d hm x0 x1 x2 x3 x4 x5 x6
   rcases ky with _|m2
   .have HE:Hid (fY g kids (k+1)=fY g kids k++[k]):=aA (by have:=a.o;rwa [iP rfl] at this);clear a M;obtain⟨p,T⟩:=xE (U.alloc (.cells (JV m) 281));rw[<-T] at c f;have ah:=aA T;clear T;go_upto_region 7 with (fail)
    rw[<-ah.o];obtain⟨N,G,o⟩:=aY (aK p (.cells #[.int .i64 (k:Int)] 3) p.heap.size qs) (aC c.o (aB p (.cells #[.int .i64 (k:Int)] 3))) (f.o.on tO (aB p (.cells #[.int .i64 (k:Int)] 3)));clear f;go_wp2_with (at_builtin;refine cC (base:=w.heap.size) elN tO rfl (.tmp 31) (.tmp 33) rfl _ (fY g kids k) rfl o.o p.heap.size 1 _ _ _ k rfl N.o ⟨rfl,trivial⟩ (qD O.o K.o) qo (by have:=c.o.size;rw[World.size_alloc];omega) ?_;intro l' x A' c2 w9 s t P;have HG9:=aA s;have HB9:=aA (o.o.below G.o t (lR _) (by have:=c.o.size;rw[World.size_alloc];omega));have HL9:=aA x.o;clear s t P x)
    go_roundw
    case rel=>exact QCc
    case measure=>simp[intOf];omega
   .obtain⟨rfl,R⟩:=M.o m2 rfl;have l:=aA (KD m R _ g _ (aH.on bZ HS.o c.o));unfold aO at l;have aa:Hid (fY g kids (k+1)=if decide (oN g m≠0)=true then fY g kids k++[k] else fY g kids k):=aA a.o;clear a;have a:=aa;clear aa;generalize oN g m=q at *;have af:=aA R;obtain⟨⟨mc,mn,mm⟩,mo,az,a1,a6⟩:=m;unfold kL at l;dsimp only at l c f ⊢;clear M R W;go_wp2_with fail;refine l.o.mono ?_;rintro e z ⟨rfl,d⟩;have A:=qB c d;have J:=aA (f.o.on tO d);clear l c f d af;by_cases S:q=0
    .subst S;have HE:Hid (fY g kids (k+1)=fY g kids k):=aA (by have:=a.o;rwa [iN qe] at this);clear a;go_wp2;go_roundw
     case rel=>exact⟨k+1,y,C,D,qo,by go_num,rfl,aA (by rw[Z.o,HE.o]),aA (by rw[HE.o];exact J.o),A⟩
     case measure=>simp[intOf];omega
    .have ay:((q:Int)==0)=false:=bN.2 qo;have HE:Hid (fY g kids (k+1)=fY g kids k++[k]):=aA (by have:=a.o;rwa [iP (dX S)] at this);clear a S;obtain⟨N,G,o⟩:=aY (aK z (.cells #[.int .i64 (k:Int)] 3) z.heap.size qs) (aC A.o (aB z (.cells #[.int .i64 (k:Int)] 3))) (J.o.on tO (aB z (.cells #[.int .i64 (k:Int)] 3)));clear J;go_wp2_with (at_builtin;refine cC (base:=w.heap.size) elN tO rfl (.tmp 31) (.tmp 33) rfl _ (fY g kids k) rfl o.o z.heap.size 1 _ _ _ k rfl N.o ⟨rfl,trivial⟩ (qD O.o K.o) qo (by have:=A.o.size;rw[World.size_alloc];omega) ?_;intro l' x A' c2 w9 s t P;have HG9:=aA s;have HB9:=aA (o.o.below G.o t (lR _) (by have:=A.o.size;rw[World.size_alloc];omega));have HL9:=aA x.o;clear s t P x)
     go_roundw
     case rel=>exact QCc
     case measure=>simp[intOf];omega
  .have ai:¬(k:Int)<(kids.length:Int):=qo;obtain rfl:k=kids.length:=qo;have ag:=aA (I.o.sl (qD O.o K.o) (fun b=>w.heap.size<=b) (fun b Q _=>Q) (fun b Q _=>Q) tO);generalize fY g kids kids.length=L at *;obtain rfl:=Z.o;go_wp2;go_returns;exact⟨_,rfl,ag.o,F.o⟩
end Go.Proofs.YtbinmcabjnoliaaGreatDoor
