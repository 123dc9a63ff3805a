/- Lemmas. -/
import Derived.Test.YtgoanbpcdhmfkaaGreatDoorMau
namespace Go.Proofs.YtgoanbpcdhmfkaaGreatDoor
open Go.RowKit
set_option linter.unusedVariables false
set_option linter.unusedSimpArgs false
set_option maxHeartbeats 16000000
open _root_.Go.Proofs.Tryz
set_option maxRecDepth 20000
theorem GU(g:List Gv)(r:Ru):Cm.fL (iA g r).1=true:=by
 unfold iA EC;simp only;have hm:Cm.fL (if r.aDl=true then ((0,4):Mk) else (4,0))=true:=by split<;>decide
 split
 .decide
 split
 .exact GP hm
 .exact hm
theorem YJ{n:Nat}{g:List Gv}{p:Po}(b:∀k,Cm.fL (cZ g n k).1=true):∀m∈(p.aCM.map (iA g)++p.aCY.map (cZ g n)).map (·.1),Cm.fL m=true:=by
 intro m hm;obtain⟨x,a,rfl⟩:=List.mem_map.1 hm
 rcases List.mem_append.1 a with a|a
 .obtain⟨r,_,rfl⟩:=List.mem_map.1 a;exact GU g r
 .obtain⟨k,_,rfl⟩:=List.mem_map.1 a;exact b k
theorem uP(g:List Gv):∀(n:Nat) (p:Po),Cm.fL (cZ g n p).1=true
 |0,_=>by unfold cZ;decide
 |n+1,p=>by
  have hp:=PH p.alg _ (YJ (n:=n) (g:=g) (p:=p) (fun k=>uP g n k));unfold cZ rK;simp only;split
  .rfl
  split
  .exact GP hp
  split
  .exact hp
  .exact hp
def Py(n:Nat):Prop:=∀(m:Nat) (ok b:nP) (p:Po) (vt vr vk vo a:Value) (g:List Gv) (w:World),IZ n p->fM m w b p vt vr vk vo->aH jN w ok a g->
 Calls prog 157 #[.agg #[.string p.id,.bool p.set,.int .i64 p.alg,vt,vr,vk,vo],a] w (mX (cZ g n p) w)
theorem VP(n:Nat)(hn:n<=3)(IH:Py n):Py (n+1):=by
 intro lv ok b5 p vt vr vk vo vg g w bl hp h;obtain⟨ga,gc,rfl,_⟩:=h.slice;obtain⟨ta,tc,rfl,_⟩:=hp.2.2.1.slice;obtain⟨ra,rc,rfl,_⟩:=hp.2.2.2.1.slice;obtain⟨ka,kc,rfl,_⟩:=hp.2.2.2.2.1.slice;obtain⟨oa,oc,rfl,_⟩:=hp.2.2.2.2.2.slice;obtain⟨HP,HS,bt,F⟩:=dD hp h IH bl;obtain⟨o1,a6⟩:∃o1:Obj,o1=.cells (kH p ta tc ra rc ka kc oa oc) 38:=⟨_,rfl⟩;obtain⟨o2,a7⟩:∃o2:Obj,o2=.cells #[.complex .f64 0 0,.slice none 0 0] 124:=⟨_,rfl⟩;obtain⟨W0,ag⟩:=xE ((w.alloc o1).alloc o2);have P:=aA (ag▸KZ w o1 o2:Kp w w.heap.size (w.heap.size+1) o1 o2 W0);rw[a6,a7] at ag;obtain⟨b0,bu,bw,aq⟩:=dD ag a6 a7 (ZJ _ p.aCU _ g W0 (hp.2.2.1.on aS P.o.1) (h.on cA P.o.1));obtain⟨t,ht⟩:∃t,xO g p.aCU=t:=⟨_,rfl⟩;rw[ht] at aq;have bz:Hid (t<=2):=aA (ht▸Ae g p.aCU);have O:Hid (cZ g (n+1) p=if t=0 then ((0,0),[]) else rK p.alg p.aC0 t (p.aCM.map (iA g)++p.aCY.map (cZ g n))):=aA (by unfold cZ;simp only[ht]);obtain⟨J,hJ⟩:∃J,cZ g (n+1) p=J:=⟨_,rfl⟩;rw[hJ] at O ⊢;have PB:=aA (by have h:=P.o.2.1;rw[bu.o] at h;exact h:W0.heap[w.heap.size]? =some (.cells (kH p ta tc ra rc ka kc oa oc) 38 (0,0)));have RB:=aA (by have h:=P.o.2.2;rw[bw.o] at h;exact h:W0.heap[w.heap.size+1]? =some (.cells #[.complex .f64 0 0,.slice none 0 0] 124 (0,0)));have b9:=uD;clear h hp ag a6 a7 bl IH hJ ht;go_enter func157,ntmps157;go_wp2_with fail;rw[<-b0.o];refine aq.o.mono ?_;rintro e j ⟨rfl,ae⟩;obtain⟨E,ab,ay⟩:=aY (P.o.on ae) (aE PB.o ae) (aE RB.o ae);clear aq ae;obtain⟨⟨v0,v1,v2,v3,v4,v5,v6⟩,q0,q1,q2,q3,q4,q5,q6⟩:=bI ab.o;have zv:=aD ab.o;by_cases af:t=0
 .have b3:((t:Int)==0)=true:=bQ.2 qo;have HJ2:=aA (by have h:=O.o;rwa [iP af] at h:J=((0,0),[]));obtain⟨⟨u0,u1⟩,f0,f1⟩:=fJ ay.o;have zu:=aD ay.o;have HBW:=aA E.o.1;clear O af;exact QCI
 have b3:((t:Int)==0)=false:=bN.2 qo;have HJ2:=aA (by have h:=O.o;rwa [iN af] at h:J=rK p.alg p.aC0 t (p.aCM.map (iA g)++p.aCY.map (cZ g n)));clear O af;go_wp2;go_loopw [6,21] (fun v i wr=>∃(k:Nat) (H:oD) (I:Nat),k<=p.aCM.length/\i=.int .i64 k/\v=.slice H k I/\Hid (aM Ka 2 124 wr j.heap.size (fun b=>j.heap.size<=b) (.slice H k I) ((p.aCM.take k).map (iA g)))/\Hid (Below j.heap.size j wr)) (fun _ i _=>p.aCM.length - (intOf i).toNat)
 case atStart=>exact⟨0,none,0,qo,rfl,rfl,aA aM.nil,aA (Below.refl _ _)⟩
 case round=>
  obtain⟨k,H,I,hk,rfl,rfl,l,c⟩:=hrel;by_cases A:k<p.aCM.length
  .have a1:(k:Int)<(p.aCM.length:Int):=qo;obtain⟨b,off,rr,rfl,_,b4,⟨b7,ca,b6,rfl,Z⟩,W⟩:=aH.at bM ((HP.o.2.2.2.1.inb bM).on bM (aC E.o.1 c.o)) A qe;obtain⟨aj,ak,rfl,_⟩:=Z.2.1.slice;obtain⟨b1,b2,rfl,_⟩:=Z.2.2.1.slice;obtain⟨ah,ai,rfl,_⟩:=Z.2.2.2.slice;obtain⟨x0,x1,x2,x3,x4⟩:=FM W;rw[Nat.add_zero] at x0;have HTF:Hid ((p.aCM.take k).map (iA g)++[iA g p.aCM[k]]=(p.aCM.take (k+1)).map (iA g)):=aA (by rw[List.take_succ_eq_append_getElem A,List.map_append];rfl);obtain⟨Q,S,b8,R,T⟩:=gC (show ((p.aCM.take k).map (iA g)).length=k by rw[List.length_map,List.length_take];omega) (GU g p.aCM[k]) c.o.size (show p.aCM.length<=16 from F.o.1) Z;clear W Z;generalize p.aCM[k]=r at *;have z:=aA (aB wr (.cells #[.string r.id,.bool r.aDl,.slice aj r.aCU.length ak,.slice b1 r.cond.length b2,.slice ah r.aC0.length ai] 276));obtain⟨f,C,M⟩:=aY (Jy r _ _ _ _ g _ (T.o.aCT (aJ z.o)) (HS.o.on cA (aC E.o.1 (aC c.o z.o)))) (l.o.on kK z.o) (aC c.o z.o);unfold mX at f;obtain⟨a,aa⟩:∃a,iA g r=a:=⟨_,rfl⟩;rw[aa] at f HTF S;clear l c T aa;go_wp2_with fail;refine f.o.mono ?_;rintro e d ⟨bq,rfl,x,s⟩;obtain⟨m,o,rfl,_⟩:=x.slice;have B:=qB M s;obtain⟨al,au,N,ao,D⟩:=gC (aC B.o (aB d (.cells #[.complex .f64 (Cm.qb a.1.1) (Cm.qb a.1.2),.slice m a.2.length o] 124))) (aK d (.cells #[.complex .f64 (Cm.qb a.1.1) (Cm.qb a.1.2),.slice m a.2.length o] 124) d.heap.size qs) (C.o.on kK (aC s (aB d (.cells #[.complex .f64 (Cm.qb a.1.1) (Cm.qb a.1.2),.slice m a.2.length o] 124)))) C.o.lt (x.inb aO);have aw:=aA (aH.more aO (aH.on aO D.o (aB d (.cells #[.complex .f64 (Cm.qb a.1.1) (Cm.qb a.1.2),.slice m a.2.length o] 124))) (ok':=fun b=>j.heap.size<=b/\b<(d.alloc (.cells #[.complex .f64 (Cm.qb a.1.1) (Cm.qb a.1.2),.slice m a.2.length o] 124)).heap.size/\some b≠(Value.slice H k I).ownBlock) (fun b q=>⟨lT M.o.size q.1,by have:=q.2;rw[World.size_alloc];omega,fun e=>absurd (ao.o b e.symm).2 (Nat.not_lt.2 q.1)⟩))
   clear f C D x s;go_wp2_with (at_builtin;refine cB (base:=j.heap.size) Yl kK rfl (.tmp 25) (.tmp 29) rfl _ ((p.aCM.take k).map (iA g)) rfl N.o d.heap.size 1 _ _ _ a rfl au.o ⟨_,rfl,S.o,aw.o⟩ (by rw[Q.o];have:=R.o;omega) qo (by have:=B.o.size;rw[World.size_alloc];omega) ?_;intro l' Y A' c2 w9 U X az;have HG9:=aA U;have HB9:=aA (N.o.below al.o X (lR _) (by have:=B.o.size;rw[World.size_alloc];omega));have HL9:=aA Y.o;clear U X az Y)
   have e9:l'.length=k+1:=by rw[HL9.o,aL,Q.o];rfl
   exact QBU
  .have a1:¬(k:Int)<(p.aCM.length:Int):=qo;obtain rfl:k=p.aCM.length:=qo;obtain⟨wo,rfl⟩:∃wo:World,wo=wr:=⟨_,rfl⟩;rw[List.take_of_length_le (lR _)] at l;obtain⟨y,ad⟩:∃y,p.aCM.map (iA g)=y:=⟨_,rfl⟩;have bb:Hid (y.length=p.aCM.length):=aA (by rw[<-ad,List.length_map]);rw[ad] at l HJ2;have bc:=aA ad;have a8:Hid (aM Ka 2 124 wo j.heap.size (fun b=>j.heap.size<=b) (.slice H p.aCM.length I) (y++(p.aCY.take 0).map (cZ g n))):=aA (by have:=l.o;rw[List.take_zero,List.map_nil,List.append_nil];exact this);obtain⟨ax,R,an⟩:=aY (aE ab.o c.o) (show p.aCM.length<=16 from F.o.1) (show p.aCY.length<=16 from F.o.2.1);clear v0 v1 v2 v3 v4 v5 v6 q0 q1 q2 q3 q4 q5 q6 zv ad l A hk;obtain⟨⟨v0,v1,v2,v3,v4,v5,v6⟩,q0,q1,q2,q3,q4,q5,q6⟩:=bI ax.o;have zv:=aD ax.o;go_wp2;go_loopw [6,35] (fun v i wr=>∃(k L:Nat) (a2:oD) (c2:Nat),k<=p.aCY.length/\i=.int .i64 k/\v=.slice a2 L c2/\Hid (L=p.aCM.length+k)/\Hid (aM Ka 2 124 wr j.heap.size (fun b=>j.heap.size<=b) (.slice a2 L c2) (y++(p.aCY.take k).map (cZ g n)))/\Hid (Below j.heap.size j wr)) (fun _ i _=>p.aCY.length - (intOf i).toNat)
   case atStart=>exact⟨0,p.aCM.length,H,I,qo,rfl,rfl,aA rfl,a8,c⟩
   case round=>
    clear a8 c ax;obtain⟨k,L,a2,c2,hk,rfl,rfl,ar,l,c⟩:=hrel;by_cases A:k<p.aCY.length
    .have a1:(k:Int)<(p.aCY.length:Int):=qo;obtain⟨b,off,rr,rfl,_,b4,bk,W⟩:=aH.at (bB lv) ((HP.o.2.2.2.2.1.inb (bB lv)).on (bB lv) (aC E.o.1 c.o)) A qe
     rcases lv with _|lv
     .exact bk.elim
     obtain⟨b7,cc,cb,b6,rfl,K⟩:=bk;obtain⟨aj,ak,rfl,_⟩:=K.2.2.1.slice;obtain⟨bo,bp,rfl,_⟩:=K.2.2.2.1.slice;obtain⟨bm,bn,rfl,_⟩:=K.2.2.2.2.1.slice;obtain⟨ah,ai,rfl,_⟩:=K.2.2.2.2.2.slice;obtain⟨x0,x1,x2,x3,x4,x5,x6⟩:=CD W;rw[Nat.add_zero] at x0;have HTF:Hid ((y++(p.aCY.take k).map (cZ g n))++[cZ g n p.aCY[k]]=y++(p.aCY.take (k+1)).map (cZ g n)):=aA (by rw[List.take_succ_eq_append_getElem A,List.map_append,List.append_assoc];rfl);obtain⟨Q,S,bx⟩:=aY (show (y++(p.aCY.take k).map (cZ g n)).length=L by rw[ar.o,aL,bb.o,List.length_map,List.length_take];omega) (uP g n p.aCY[k]) (F.o.2.2.2.2 p.aCY[k] (List.getElem_mem A));clear W;generalize p.aCY[k]=r at *;have T:Hid (fM lv wr (fun b=>b5 b/\b<w.heap.size) r (.slice aj r.aCU.length ak) (.slice bo r.aCM.length bp) (.slice bm r.aCY.length bn) (.slice ah r.aC0.length ai)):=aA K;clear K;have z:=aA (aB wr (.cells (kH r aj ak bo bp bm bn ah ai) 38));obtain⟨f,C,M⟩:=aY (bt.o lv _ _ r _ _ _ _ _ g _ bx.o (T.o.aCT (aJ z.o)) (HS.o.on cA (aC E.o.1 (aC c.o z.o)))) (l.o.on kK z.o) (aC c.o z.o);unfold mX at f;obtain⟨a,aa⟩:∃a,cZ g n r=a:=⟨_,rfl⟩;rw[aa] at f HTF S;clear l c T aa;go_wp2_with fail;refine f.o.mono ?_;rintro e d ⟨bq,rfl,x,s⟩;obtain⟨m,o,rfl,_⟩:=x.slice;have B:=qB M s;obtain⟨al,au,N,ao,D⟩:=gC (aC B.o (aB d (.cells #[.complex .f64 (Cm.qb a.1.1) (Cm.qb a.1.2),.slice m a.2.length o] 124))) (aK d (.cells #[.complex .f64 (Cm.qb a.1.1) (Cm.qb a.1.2),.slice m a.2.length o] 124) d.heap.size qs) (C.o.on kK (aC s (aB d (.cells #[.complex .f64 (Cm.qb a.1.1) (Cm.qb a.1.2),.slice m a.2.length o] 124)))) C.o.lt (x.inb aO)
     have aw:=aA (aH.more aO (aH.on aO D.o (aB d (.cells #[.complex .f64 (Cm.qb a.1.1) (Cm.qb a.1.2),.slice m a.2.length o] 124))) (ok':=fun b=>j.heap.size<=b/\b<(d.alloc (.cells #[.complex .f64 (Cm.qb a.1.1) (Cm.qb a.1.2),.slice m a.2.length o] 124)).heap.size/\some b≠(Value.slice a2 L c2).ownBlock) (fun b q=>⟨lT M.o.size q.1,by have:=q.2;rw[World.size_alloc];omega,fun e=>absurd (ao.o b e.symm).2 (Nat.not_lt.2 q.1)⟩));clear f C D x s;go_wp2_with (at_builtin;refine cB (base:=j.heap.size) Yl kK rfl (.tmp 39) (.tmp 43) rfl _ (y++(p.aCY.take k).map (cZ g n)) rfl N.o d.heap.size 1 _ _ _ a rfl au.o ⟨_,rfl,S.o,aw.o⟩ (by rw[Q.o,ar.o];have:=R.o;have:=an.o;omega) qo (by have:=B.o.size;rw[World.size_alloc];omega) ?_;intro l' Y A' c3 w9 U X az;have HG9:=aA U;have HB9:=aA (N.o.below al.o X (lR _) (by have:=B.o.size;rw[World.size_alloc];omega));have HL9:=aA Y.o;clear U X az Y)
     have bs:Hid (l'.length=p.aCM.length+(k+1)):=aA (by rw[HL9.o,aL,Q.o,ar.o];rfl);go_roundw
     case rel=>exact⟨k+1,l'.length,A',c3,qo,by go_num,rfl,bs,aA (by have:=HG9.o;rw[HTF.o] at HL9;rw[<-HL9.o];exact this),HB9⟩
     case measure=>simp[intOf];omega
    .have a1:¬(k:Int)<(p.aCY.length:Int):=qo;obtain rfl:k=p.aCY.length:=qo;obtain⟨wp,rfl⟩:∃wp:World,wp=wr:=⟨_,rfl⟩;rw[List.take_of_length_le (lR _)] at l;obtain⟨G,V⟩:∃G,y++p.aCY.map (cZ g n)=G:=⟨_,rfl⟩;have av:Hid (G.length=p.aCM.length+p.aCY.length):=aA (by rw[<-V,aL,bb.o,List.length_map]);have bd:Hid ((G.map (·.2.length)).sum<=900000):=aA (by rw[<-V,<-bc.o];exact Px hn g F.o);have ba:Hid (J=rK p.alg p.aC0 t G):=aA (by have h:=HJ2.o;rw[V] at h;exact h);rw[V] at l;have bf:=aA (l.o.sl (by rw[av.o];have:=R.o;have:=an.o;omega) (fun _=>True) (fun _ _ _=>trivial) (fun _ _ _=>trivial) kK);have HBW:=aA (aC E.o.1 c.o);have f:=aA (Ke p _ _ _ _ t bz.o _ G wp (fM.aCT (fM.inb HP.o) (aJ HBW.o)) bf.o bd.o (qA F.o.2.2.1) (by rw[av.o];have:=R.o;have:=an.o;omega));rw[<-ba.o] at f;have bg:=qK ab c.o;have bh:=qK ay c.o;unfold mX at f;clear V l HJ2 ba bc bd av bf c A hk v0 v1 v2 v3 v4 v5 v6 q0 q1 q2 q3 q4 q5 q6 zv;obtain⟨⟨v0,v1,v2,v3,v4,v5,v6⟩,q0,q1,q2,q3,q4,q5,q6⟩:=bI bg.o;have zv:=aD bg.o;go_wp2_with fail;refine f.o.mono ?_;rintro e d ⟨bq,rfl,x,s⟩;obtain⟨m,o,rfl,_⟩:=x.slice;obtain⟨bj,D,br,be⟩:=dD (aE bh.o s) x (aC HBW.o s) (aD bh.o);clear v0 v1 v2 v3 v4 v5 v6 q0 q1 q2 q3 q4 q5 q6 zv x s f;obtain⟨⟨u0,u1⟩,f0,f1⟩:=fJ bj.o;have zu:=aD bj.o;go_wp2;refine bR (.agg #[.complex .f64 (Cm.qb J.1.1) (Cm.qb J.1.2),.slice m J.2.length o]) ?_;exact⟨_,rfl,aH.more aO (aH.aCT aO D.o (((aI (g:=w.heap.size+1) (i:=0) _).trans (aI (g:=w.heap.size+1) (i:=1) _)).mono fun k hk q=>by have h1:wp.heap.size<=k:=q;have h2:=be.o;show k≠w.heap.size+1;omega)) (fun b q=>by have h1:wp.heap.size<=b:=q;have h2:=be.o;show w.heap.size<=b;omega),nX br.o (Nat.le_succ _)⟩
theorem GV:∀n,n<=4->Py n
 |0,_=>fun _ _ _ _ _ _ _ _ _ _ _ h=>h.elim
 |n+1,h=>VP n qo (GV n qo)
def LJ(r:(Mk×List Ob)×Int)(w:World)(e:Ending)(w':World):Prop:=∃vo,e=.returned (.tuple #[.agg #[.complex .f64 (Cm.qb r.1.1.1) (Cm.qb r.1.1.2),vo],.int .i64 r.2])/\aH jU w' (fun b=>w.heap.size<=b) vo r.1.2/\Below w.heap.size w w'
theorem Ah{r:(Mk×List Ob)×Int}{a b:Nat}{i:Int}{w w':World}(c:r=(((a,b),[]),i))(h:Below w.heap.size w w'){x y:Nat}(d:Cm.qb a=x)(e:Cm.qb b=y):LJ r w (.returned (.tuple #[.agg #[.complex .f64 x y,.slice none 0 0],.int .i64 i])) w':=by
 subst c d e;exact⟨_,rfl,aH.nil,h⟩
theorem Kh{lv:Nat}{ok aa:nP}(p:Po)(vt vr vk vo R:Value)(g:List Gv)(w:World)(hp:fM lv w aa p vt vr vk vo)(h:aH jN w ok R g):
 Calls prog 94 #[.agg #[.string p.id,.bool p.set,.int .i64 p.alg,vt,vr,vk,vo],R] w (LJ (rL g p) w):=by
 obtain⟨ga,gc,rfl,_⟩:=h.slice;obtain⟨P,Q,rfl,_⟩:=hp.2.2.1.slice;obtain⟨ra,rc,rfl,_⟩:=hp.2.2.2.1.slice;obtain⟨L,M,rfl,_⟩:=hp.2.2.2.2.1.slice;obtain⟨N,O,rfl,_⟩:=hp.2.2.2.2.2.slice;have V:=aA hp;have X:=aA h;obtain⟨d,y⟩:∃d:Obj,d=.cells (kH p P Q ra rc L M N O) 38:=⟨_,rfl⟩;obtain⟨f,z⟩:∃f:Obj,f=.cells #[.complex .f64 0 0,.slice none 0 0] 124:=⟨_,rfl⟩;obtain⟨W0,r⟩:=xE ((w.alloc d).alloc f);have m:=aA (r▸KZ w d f:Kp w w.heap.size (w.heap.size+1) d f W0);rw[y,z] at r;obtain⟨Z,T,U,s⟩:=dD r y z (rY p _ _ _ _ W0 (fM.aCT hp.inb (aJ m.o.1)));obtain⟨t,q⟩:∃t,fL p=t:=⟨_,rfl⟩;rw[q] at s;have c:Hid (rL g p=if t≠0 then (((0,0),[]),1) else (cZ g 4 p,0)):=aA (by unfold rL;rw[q]);obtain⟨J,K⟩:∃J,rL g p=J:=⟨_,rfl⟩;rw[K] at c ⊢;obtain⟨W,PB,RB⟩:=aY q (by have h:=m.o.2.1;rw[T.o] at h;exact h:W0.heap[w.heap.size]? =some (.cells (kH p P Q ra rc L M N O) 38 (0,0))) (by have h:=m.o.2.2;rw[U.o] at h;exact h:W0.heap[w.heap.size+1]? =some (.cells #[.complex .f64 0 0,.slice none 0 0] 124 (0,0)));have af:=uD;clear h hp r y z K q;go_enter func94,ntmps94;go_wp2_with fail;rw[<-Z.o];refine s.o.mono ?_;rintro e C ⟨rfl,o⟩;obtain⟨E,G,n⟩:=aY (m.o.on o) (aE PB.o o) (aE RB.o o);clear s o;obtain⟨⟨v0,v1,v2,v3,v4,v5,v6⟩,q0,q1,q2,q3,q4,q5,q6⟩:=bI G.o;have zv:=aD G.o;by_cases B:t=0
 .subst B;have l:=aA (by have h:=c.o;rwa [iN qo] at h:J=(cZ g 4 p,0));have a:=aA E.o.1;have j:=aA (GV 4 (lR _) lv _ _ p _ _ _ _ _ g C (LH W.o) (fM.aCT (fM.inb V.o) (aJ a.o)) (X.o.on cA a.o));obtain⟨D,I⟩:∃D,cZ g 4 p=D:=⟨_,rfl⟩;rw[I] at j l;unfold mX at j;clear c I;go_wp2_with fail;refine j.o.mono ?_;rintro e w3 ⟨ag,rfl,A,x⟩;obtain⟨ab,ad,rfl,_⟩:=A.slice;obtain⟨H,Y,S,F⟩:=dD (aE n.o x) A (aC a.o x) (aD n.o);clear v0 v1 v2 v3 v4 v5 v6 q0 q1 q2 q3 q4 q5 q6 zv A x j;obtain⟨⟨u0,u1⟩,f0,f1⟩:=fJ H.o;have zu:=aD H.o;go_wp2;refine bR (.tuple #[.agg #[.complex .f64 (Cm.qb D.1.1) (Cm.qb D.1.2),.slice ab D.2.length ad],.int .i64 0]) ?_;rw[l.o];exact⟨_,rfl,aH.more aO (aH.aCT aO Y.o (((aI (g:=w.heap.size+1) (i:=0) _).trans (aI (g:=w.heap.size+1) (i:=1) _)).mono fun k hk v=>by have h1:C.heap.size<=k:=v;have h2:=F.o;show k≠w.heap.size+1;omega)) (fun b v=>by have h1:C.heap.size<=b:=v;have h2:=F.o;show w.heap.size<=b;omega),nX S.o (Nat.le_succ _)⟩
 .have l:=aA (by have h:=c.o;rwa [iP B] at h:J=(((0,0),[]),1));have ae:(t==0)=false:=bN.2 B;obtain⟨⟨u0,u1⟩,f0,f1⟩:=fJ n.o;have zu:=aD n.o;have a:=aA E.o.1;clear c;go_wp2;refine bR (.tuple #[.agg #[.complex .f64 0 0,.slice none 0 0],.int .i64 1]) ?_;exact Ah l.o (nX a.o (Nat.le_succ _)) rfl rfl
def sC(m:Ma):Bool:=decide (m.op=1)&& !m.aDa.aDi
theorem Ki{t:Ta}{k:Nat}(a:k<t.length)(h:t[k].length≠1):pT (t.drop k)=pT (t.drop (k+1)):=by
 rw[List.drop_eq_getElem_cons a];unfold pT;rw[List.filter_cons_of_neg (by simpa using h)]
theorem Kj{t:Ta}{k:Nat}(a:k<t.length)(h:t[k].length=1):pT (t.drop k)=match ((t[k].head?).getD []).find? sC with |some m=>some m|none=>pT (t.drop (k+1)):=by
 rw[List.drop_eq_getElem_cons a];unfold pT;rw[List.filter_cons_of_pos (by simpa using h),List.findSome?_cons];have e:(fun m:Ma=>decide (m.op=1)&& !m.aDa.aDi)=sC:=rfl;rw[e]
 cases ((t[k].head?).getD []).find? sC<;>rfl
theorem Kk{l:List Ma}{j:Nat}(hj:j<l.length):(l.drop j).find? sC=if sC l[j]=true then some l[j] else (l.drop (j+1)).find? sC:=by
 rw[List.drop_eq_getElem_cons hj,List.find?_cons]
 cases sC l[j]<;>rfl
theorem Kl(g:List Gv)(k:Po):nV g k=match pT k.aCU with |none=>true |some m=>decide (oN g m≠0):=rfl
theorem QCV{p:Prop}(h:p:=by
 go_wp2;go_roundw
 case rel=>exact⟨q+1,qo,by go_num,HE,HB3⟩
 case measure=>simp[intOf];omega):p:=h
def EY(o:Option Ma)(w:World)(e:Ending)(w':World):Prop:=∃m:Ma,e=.returned (.tuple #[kN m,.bool o.isSome])/\(∀x,o=some x->m=x/\tR x)/\Below w.heap.size w w'
theorem Vl{m:Ma}{o:Option Ma}(h:some m=o){w w':World}(hm:tR m)(b:Below w.heap.size w w'):EY o w (.returned (.tuple #[.agg #[.int .i64 m.aDa.cat,.string m.aDa.name,.bool m.aDa.aDi,.int .i64 m.op,.int .i64 m.val.1,.int .i64 m.val.2.1,.string m.val.2.2],.bool true])) w':=by
 subst h;exact⟨m,rfl,fun x a=>by injection a with a;subst a;exact⟨rfl,hm⟩,b⟩
theorem Pz{o:Option Ma}(h:none=o){w w':World}(a:Below w.heap.size w w'):EY o w (.returned (.tuple #[.agg #[.int .i64 0,.string ⟨#[]⟩,.bool false,.int .i64 0,.int .i64 0,.int .i64 0,.string ⟨#[]⟩],.bool false])) w':=by
 subst h;exact⟨⟨⟨0,⟨#[]⟩,false⟩,0,0,0,⟨#[]⟩⟩,rfl,(fun x b=>by cases b),a⟩
def Ss(F K:Option Ma):Option Ma:=match F with |some m=>some m|none=>K
theorem Km{W w:World}{g:Nat}{a b c d e f h:Value}(j:Below W.heap.size W w)(i:W.heap.size<=g):Below W.heap.size W (((((((w.setCell ⟨g,0,none⟩ a).setCell ⟨g,1,none⟩ b).setCell ⟨g,2,none⟩ c).setCell ⟨g,3,none⟩ d).setCell ⟨g,4,none⟩ e).setCell ⟨g,5,none⟩ f).setCell ⟨g,6,none⟩ h):=
 ((((((j.setCell i _).setCell i _).setCell i _).setCell i _).setCell i _).setCell i _).setCell i _
theorem Vm{ok:nP}(vt:Value)(t:Ta)(w:World)(h:nZ w ok vt t):Calls prog 201 #[vt] w (EY (pT t) w):=by
 obtain⟨ta,tc,rfl,_⟩:=h.slice;obtain⟨J,R⟩:∃J,pT t=J:=⟨_,rfl⟩;have Y:Hid (pT (t.drop 0)=J):=aA (by rw[List.drop_zero];exact R);rw[R];obtain⟨W0,z⟩:=xE (w.alloc (.cells ZM 288));have W:Hid (Below w.heap.size w W0):=aA (by rw[z];exact aB _ _);have PB:Hid (W0.heap[w.heap.size]? =some (.cells ZM 288 (0,0))):=aA (by rw[z];exact aK _ _ _ rfl);have HS:Hid (nZ W0 ok (.slice ta t.length tc) t):=aA (aH.on aS h (by rw[z];exact aB _ _));have ae:=aA z;clear h R z;go_enter func201,ntmps201;go_wp2;rw[<-ae.o];go_loopw [5,7,10] (fun _ _ i wr=>∃k:Nat,k<=t.length/\i=.int .i64 k/\Hid (pT (t.drop k)=J)/\Hid (Below W0.heap.size W0 wr)) (fun _ _ i _=>t.length - (intOf i).toNat)
 case atStart=>exact⟨0,Nat.zero_le _,rfl,Y,aA (Below.refl _ _)⟩
 case round=>
  clear Y;obtain⟨x,rfl⟩:∃x:World,x=wr:=⟨_,rfl⟩;obtain⟨k,hk,rfl,v,s⟩:=hrel;have P:=qK PB s.o;by_cases S:k<t.length
  .have af:(k:Int)<(t.length:Int):=qo;obtain⟨b,off,r,rfl,_,ak,⟨vx,rfl,K⟩,f⟩:=aH.at aS (HS.o.on aS s.o) S qe;have B:=f 0 _ rfl;rw[Nat.add_zero,Nat.mul_one] at B;by_cases H:t[k].length=1
   .have d:=aA ((Kj S H).symm.trans v.o);have O:=aA K;clear f v K;generalize t[k]=l at *;obtain⟨L,rfl⟩:=List.length_eq_one_iff.1 H;obtain⟨U,V,rfl⟩:∃U V,vx=.slice U 1 V:=by obtain⟨a,c,e,_⟩:=O.o.slice;exact⟨a,c,e⟩
    obtain⟨b2,ai,r2,rfl,_,al,⟨vy,rfl,T⟩,f⟩:=aH.at dO (k:=0) O.o qs qe;obtain⟨E,G,ah,aj⟩:∃E G,vy=.slice E L.length G/\L.length<=1000000:=by obtain⟨a,c,e,h⟩:=T.slice;exact⟨a,c,e,h⟩
    subst ah;have y0:x.cell? ⟨b2,ai,none⟩=some (.slice E L.length G):=by have:=f 0 _ rfl;simp only[Nat.add_zero,Nat.zero_mul] at this;exact this
    have HL:Hid (aH rM x ok (.slice E L.length G) L):=aA T;obtain⟨F,Q⟩:∃F,L.find? sC=F:=⟨_,rfl⟩;have X:Hid ((L.drop 0).find? sC=F):=aA (by rw[List.drop_zero];exact Q);have C:Hid (Ss F (pT (t.drop (k+1)))=J):=aA (by have h:Ss (L.find? sC) (pT (t.drop (k+1)))=J:=d.o;rw[Q] at h;exact h);clear f d O T H Q;go_wp2;clear B y0;go_loopw [7,21] (fun _ i wr=>∃q:Nat,q<=L.length/\i=.int .i64 q/\Hid ((L.drop q).find? sC=F)/\Hid (Below x.heap.size x wr)) (fun _ i _=>L.length - (intOf i).toNat)
    case atStart=>exact⟨0,Nat.zero_le _,rfl,X,aA (Below.refl _ _)⟩
    case round=>
     clear X;obtain⟨q,hq,rfl,D,y⟩:=hrel;by_cases ab:q<L.length
     .have ag:(q:Int)<(L.length:Int):=qo;obtain⟨b3,ar,r3,rfl,_,an,⟨rfl,aa⟩,f⟩:=aH.at eP (HL.o.on eP y.o) ab qe;obtain⟨B,x1,x2,x3,x4,x5,x6⟩:=CD f;rw[Nat.add_zero] at B;have d:=aA ((Kk ab).symm.trans D.o);have ad:=aA aa;clear f D aa;generalize L[q]=m at *;obtain⟨⟨g,j,M⟩,A,n,o,p⟩:=m;dsimp only at B x1 x2 x3 x4 x5 x6;obtain⟨Z,N,HB3⟩:=aY (aE (aE P.o y.o) (aB wr (.cells #[.int .i64 g,.string j,.bool M,.int .i64 A,.int .i64 n,.int .i64 o,.string p] 288))) (aC (aC (aC W.o s.o) y.o) (aB wr (.cells #[.int .i64 g,.string j,.bool M,.int .i64 A,.int .i64 n,.int .i64 o,.string p] 288))) (aC y.o (aB wr (.cells #[.int .i64 g,.string j,.bool M,.int .i64 A,.int .i64 n,.int .i64 o,.string p] 288)));by_cases I:A=1
      .subst I
       cases M
       .have HE:Hid (some (⟨⟨g,j,false⟩,1,n,o,p⟩:Ma)=J):=aA (by
         have h1:F=some ⟨⟨g,j,false⟩,1,n,o,p⟩:=by rw[<-d.o];rfl
         have:=C.o;rw[h1] at this;exact this)
        clear d C;obtain⟨⟨s0,s1,s2,s3,s4,s5,s6⟩,f0,f1,f2,f3,f4,f5,f6⟩:=bI Z.o;have zs:=aD Z.o;go_wp2;refine bR (.tuple #[.agg #[.int .i64 g,.string j,.bool false,.int .i64 1,.int .i64 n,.int .i64 o,.string p],.bool true]) ?_;exact Vl (m:=⟨⟨g,j,false⟩,1,n,o,p⟩) HE.o ad.o (Km N.o (lR _))
       .have HE:Hid ((L.drop (q+1)).find? sC=F):=aA d.o;clear d;exact QCV
      .have aq:(A==1)=false:=bN.2 I;have HE:Hid ((L.drop (q+1)).find? sC=F):=aA (by have:=d.o;rwa [iN (by unfold sC;simp[I])] at this);clear d I;exact QCV
     .have ag:¬(q:Int)<(L.length:Int):=qo;obtain rfl:q=L.length:=qo;have HE:Hid (pT (t.drop (k+1))=J):=aA (by
       have h1:F=none:=by rw[<-D.o,List.drop_length];rfl
       have:=C.o;rw[h1] at this;exact this)
      clear D C;go_wp2;go_roundw
      case rel=>exact⟨k+1,qo,by go_num,HE,aA (aC s.o y.o)⟩
      case measure=>simp[intOf];omega
   .obtain⟨U,V,rfl,_⟩:=K.slice;have HE:=aA ((Ki S H).symm.trans v.o);clear f v K;generalize t[k]=l at *;have ao:¬(l.length:Int)=1:=qo;go_wp2;go_roundw
    case rel=>exact⟨k+1,qo,by go_num,HE,s⟩
    case measure=>simp[intOf];omega
  .have af:¬(k:Int)<(t.length:Int):=qo;obtain rfl:k=t.length:=qo;have HE:Hid (none=J):=aA (by rw[<-v.o,List.drop_length];rfl);have N:=qB W s.o;clear v;obtain⟨⟨s0,s1,s2,s3,s4,s5,s6⟩,f0,f1,f2,f3,f4,f5,f6⟩:=bI P.o;have zs:=aD P.o;go_wp2;refine bR (.tuple #[.agg #[.int .i64 0,.string ⟨#[]⟩,.bool false,.int .i64 0,.int .i64 0,.int .i64 0,.string ⟨#[]⟩],.bool false]) ?_;exact Pz HE.o (Km N.o (lR _))
theorem QCb{p:Prop}(h:p:=by
 exact⟨k+1,l'.length,A',c2,qo,by go_num,rfl,aA (by rw[HL9.o,HE.o]),aA (by have h:=HG9.o;have e:=HL9.o.trans HE.o.symm;subst e;exact h),HB9⟩):p:=h
def Yn(n:Nat):List Value:=[.int .i64 (n:Int)]
def Qa:Rep Nat:=mK Yn (fun _=>True)
theorem tN:Firm Qa 1:=gD (fun _=>rfl) (fun x v h=>by simp only[Yn,List.mem_cons,List.not_mem_nil,or_false] at h;rw[h];rfl)
theorem elN:dV prog 244 3 1 8:=fP (z:= .int .i64 0) underlying244 (by kernel_rfl) rfl qe
def fX(g:List Gv)(l:List Po)(k:Nat):List Nat:=(List.range k).filter (fun i=>match l[i]? with |some x=>nV g x|none=>false)
theorem LK{g:List Gv}{l:List Po}{k:Nat}(a:k<l.length):fX g l (k+1)=if nV g l[k]=true then fX g l k++[k] else fX g l k:=by
 unfold fX;rw[List.range_succ,List.filter_append];simp only[List.filter_cons,List.filter_nil,gE a];split<;>simp
theorem PM(g:List Gv)(l:List Po)(k:Nat):(fX g l k).length<=k:=by
 have:=List.length_filter_le (fun i=>match l[i]? with |some x=>nV g x|none=>false) (List.range k);rw[List.length_range] at this;exact this
theorem Qb{g:List Gv}{l:List Po}{k i:Nat}(h:i∈fX g l k):i<k:=by
 unfold fX at h;exact List.mem_range.1 (List.mem_filter.1 h).1
theorem PN{α:Type}{g:List Gv}{l:List Po}(f:Po->α)(d:Nat->α)(b:∀i (h:i<l.length),d i=f l[i]):∀k,k<=l.length->(fX g l k).map d=((l.take k).filter (nV g)).map f
 |0,_=>rfl
 |k+1,h=>by
  have a:k<l.length:=qo;rw[LK a,List.take_succ_eq_append_getElem a,List.filter_append,List.map_append,<-PN f d b k qo];by_cases hm:nV g l[k]=true
  .rw[iP hm,List.map_append];simp[hm,b k a]
  .rw[iN hm];simp[hm]
def VQ(L:List Nat)(w:World)(e:Ending)(w':World):Prop:=∃v,e=.returned v/\aH Qa w' (fun b=>w.heap.size<=b) v L/\Below w.heap.size w w'
theorem Qc{n:Nat}{ok aq:nP}(vk vg:Value)(kids:List Po)(g:List Gv)(w:World)(E:aH (pZ n) w aq vk kids)(h:aH jN w ok vg g):Calls prog 158 #[vk,vg] w (VQ (fX g kids kids.length) w):=by
 obtain⟨ka,kc,rfl,aj⟩:=E.slice;obtain⟨ga,gc,rfl,_⟩:=h.slice;obtain⟨HP,HS,K⟩:=aY E h aj;clear E h;go_enter func158,ntmps158;go_wp2;go_loopw [5,6,7,8,9,12] (fun v _ _ _ _ i wr=>∃(k y:Nat) (C:oD) (D:Nat),k<=kids.length/\i=.int .i64 k/\v=.slice C y D/\Hid (y=(fX g kids k).length)/\Hid (aM Qa 1 3 wr w.heap.size (fun b=>w.heap.size<=b) (.slice C y D) (fX g kids k))/\Hid (Below w.heap.size w wr)) (fun _ _ _ _ _ i _=>kids.length - (intOf i).toNat)
 case atStart=>exact Ry
 case round=>
  obtain⟨k,y,C,D,E,rfl,rfl,Z,I,F⟩:=hrel;have O:=aA (PM g kids k);by_cases ae:k<kids.length
  .have ai:(k:Int)<(kids.length:Int):=qo;obtain⟨b,off,rr,rfl,_,ax,ad,hc⟩:=aH.at (bB n) (aH.on (bB n) HP.o F.o) ae qe
   rcases n with _|lv
   .exact ad.elim
   obtain⟨bb,ba,a7,a8,rfl,j⟩:=ad;obtain⟨av,aw,rfl,_⟩:=j.2.2.1.slice;obtain⟨ar,au,rfl,_⟩:=j.2.2.2.1.slice;obtain⟨ak,al,rfl,_⟩:=j.2.2.2.2.1.slice;obtain⟨an,ao,rfl,_⟩:=j.2.2.2.2.2.slice;obtain⟨x0,x1,x2,x3,x4,x5,x6⟩:=CD hc;rw[Nat.add_zero] at x0;have a:=aA (LK (g:=g) ae);have Y:=aA (Kl g kids[k]);clear hc;generalize kids[k]=r at *;have ab:=aA j.2.2.1;clear j;rw[Y.o] at a;clear Y;have B:=aA (aB wr (.cells (kH r av aw ar au ak al an ao) 38));obtain⟨H,X,V⟩:=aY (Vm _ r.aCU _ (aH.on aS ab.o B.o)) (I.o.on tN B.o) (aC F.o B.o);clear ab I;generalize pT r.aCU=ky at *;unfold EY at H;go_wp2_with fail;refine H.o.mono ?_;rintro e U ⟨m,rfl,hm,d⟩;unfold kN;have W:=qB V d;obtain⟨c,f,M⟩:=aY (aC W.o (aB U (.cells (JP m) 288))) (X.o.on tN (aC d (aB U (.cells (JP m) 288)))) hm;clear H X V B d hm x0 x1 x2 x3 x4 x5 x6
   rcases ky with _|m2
   .have HE:Hid (fX g kids (k+1)=fX g kids k++[k]):=aA (by have:=a.o;rwa [iP rfl] at this);clear a M;obtain⟨p,T⟩:=xE (U.alloc (.cells (JP m) 288));rw[<-T] at c f;have ah:=aA T;clear T;go_upto_region 7 with (fail)
    rw[<-ah.o];obtain⟨N,G,o⟩:=aY (aK p (.cells #[.int .i64 (k:Int)] 3) p.heap.size qs) (aC c.o (aB p (.cells #[.int .i64 (k:Int)] 3))) (f.o.on tN (aB p (.cells #[.int .i64 (k:Int)] 3)));clear f;go_wp2_with (at_builtin;refine cB (base:=w.heap.size) elN tN rfl (.tmp 31) (.tmp 33) rfl _ (fX g kids k) rfl o.o p.heap.size 1 _ _ _ k rfl N.o ⟨rfl,trivial⟩ (qD O.o K.o) qo (by have:=c.o.size;rw[World.size_alloc];omega) ?_;intro l' x A' c2 w9 s t P;have HG9:=aA s;have HB9:=aA (o.o.below G.o t (lR _) (by have:=c.o.size;rw[World.size_alloc];omega));have HL9:=aA x.o;clear s t P x)
    go_roundw
    case rel=>exact QCb
    case measure=>simp[intOf];omega
   .obtain⟨rfl,R⟩:=M.o m2 rfl;have l:=aA (JX m R _ g _ (aH.on cA HS.o c.o));unfold aP at l;have aa:Hid (fX g kids (k+1)=if decide (oN g m≠0)=true then fX g kids k++[k] else fX g kids k):=aA a.o;clear a;have a:=aa;clear aa;generalize oN g m=q at *;have af:=aA R;obtain⟨⟨mc,mn,mm⟩,mo,az,a1,a6⟩:=m;unfold kN at l;dsimp only at l c f ⊢;clear M R W;go_wp2_with fail;refine l.o.mono ?_;rintro e z ⟨rfl,d⟩;have A:=qB c d;have J:=aA (f.o.on tN d);clear l c f d af;by_cases S:q=0
    .subst S;have HE:Hid (fX g kids (k+1)=fX g kids k):=aA (by have:=a.o;rwa [iN qe] at this);clear a;go_wp2;go_roundw
     case rel=>exact⟨k+1,y,C,D,qo,by go_num,rfl,aA (by rw[Z.o,HE.o]),aA (by rw[HE.o];exact J.o),A⟩
     case measure=>simp[intOf];omega
    .have ay:((q:Int)==0)=false:=bN.2 qo;have HE:Hid (fX g kids (k+1)=fX g kids k++[k]):=aA (by have:=a.o;rwa [iP (dX S)] at this);clear a S;obtain⟨N,G,o⟩:=aY (aK z (.cells #[.int .i64 (k:Int)] 3) z.heap.size qs) (aC A.o (aB z (.cells #[.int .i64 (k:Int)] 3))) (J.o.on tN (aB z (.cells #[.int .i64 (k:Int)] 3)));clear J;go_wp2_with (at_builtin;refine cB (base:=w.heap.size) elN tN rfl (.tmp 31) (.tmp 33) rfl _ (fX g kids k) rfl o.o z.heap.size 1 _ _ _ k rfl N.o ⟨rfl,trivial⟩ (qD O.o K.o) qo (by have:=A.o.size;rw[World.size_alloc];omega) ?_;intro l' x A' c2 w9 s t P;have HG9:=aA s;have HB9:=aA (o.o.below G.o t (lR _) (by have:=A.o.size;rw[World.size_alloc];omega));have HL9:=aA x.o;clear s t P x)
     go_roundw
     case rel=>exact QCb
     case measure=>simp[intOf];omega
  .have ai:¬(k:Int)<(kids.length:Int):=qo;obtain rfl:k=kids.length:=qo;have ag:=aA (I.o.sl (qD O.o K.o) (fun b=>w.heap.size<=b) (fun b Q _=>Q) (fun b Q _=>Q) tN);generalize fX g kids kids.length=L at *;obtain rfl:=Z.o;go_wp2;go_returns;exact⟨_,rfl,ag.o,F.o⟩
theorem aCt:dV prog 35 38 7 128:=fP (z:= .agg #[.string ByteArray.empty,.bool false,.int .i64 0,.slice none 0 0,.slice none 0 0,.slice none 0 0,.slice none 0 0]) underlying35 (by kernel_rfl) rfl qe
theorem Qd{ok:nP}{w:World}{g i:Nat}{v:Value}(h:¬ok g):aN ok w (w.setCell ⟨g,i,none⟩ v):=(aI v).mono fun k _ a (e:k=g)=>h (e▸a)
def MZ(lv:Nat)(a:nP)(g:List Gv)(m:Nat)(p:Po)(vt vr vo:Value)(w:World)(e:Ending)(w':World):Prop:=∃vk,e=.returned (.agg #[.string p.id,.bool p.set,.int .i64 p.alg,vt,vr,vk,vo])/\aH (pZ lv) w' (fun b=>a b\/w.heap.size<=b) vk ((p.aCY.filter (nV g)).map (kT g m))/\Below w.heap.size w w'
def Qe(lv:Nat):Prop:=∀(m:Nat),lv<=m->∀(ok a:nP) (p:Po) (vt vr vk vo b:Value) (g:List Gv) (w:World),fM lv w a p vt vr vk vo->aH jN w ok b g->
 Calls prog 95 #[.agg #[.string p.id,.bool p.set,.int .i64 p.alg,vt,vr,vk,vo],b] w (MZ lv a g m p vt vr vo w)
theorem PO(g:List Gv)(m:Nat)(r:Po):kT g (m+1) r=.mk r.id r.set r.alg r.aCU r.aCM ((r.aCY.filter (nV g)).map (kT g m)) r.aC0:=rfl
theorem GW(lv:Nat)(IH:∀l,lv=l+1->Qe l):Qe lv:=by
 intro m hm ok s p vt vr vk vo vg g w hp h;obtain⟨ga,gc,rfl,_⟩:=h.slice;obtain⟨ta,tc,rfl,_⟩:=hp.2.2.1.slice;obtain⟨ra,rc,rfl,_⟩:=hp.2.2.2.1.slice;obtain⟨ka,kc,rfl,bt⟩:=hp.2.2.2.2.1.slice;obtain⟨oa,oc,rfl,_⟩:=hp.2.2.2.2.2.slice;obtain⟨W0,I⟩:=xE ((w.alloc (.cells (kH p ta tc ra rc ka kc oa oc) 38)).alloc (.cells vZ 38));have Z:Hid (Below w.heap.size w W0):=aA (by rw[I];exact aC (aB _ _) (aB _ _));have A:Hid (W0.heap[w.heap.size]? =some (.cells (kH p ta tc ra rc ka kc oa oc) 38 (0,0))):=aA (by rw[I];exact aE (aK _ _ _ rfl) (aB _ _));have R:Hid (W0.heap[w.heap.size+1]? =some (.cells vZ 38 (0,0))):=aA (by rw[I];exact aK _ _ _ qs);have bm:=aA I;have bk:Hid (W0.heap.size=w.heap.size+1+1):=aA (by rw[I];simp);obtain⟨HP,HS,bb,HM,aa⟩:=gC hp.inb h IH hm (Qc _ _ p.aCY g W0 (aH.on (bB lv) hp.2.2.2.2.1 Z.o) (h.on cA Z.o));have bh:=aA (fun i (hi:i∈fX g p.aCY p.aCY.length)=>Qb hi);obtain⟨d,hd⟩:∃d:Nat->Po,d=fun i=>kT g m ((p.aCY[i]?).getD mB):=⟨_,rfl⟩
 have HD:Hid (∀i (h:i<p.aCY.length),d i=kT g m p.aCY[i]):=aA (fun i h=>by rw[hd];dsimp only;rw[gE h];rfl);have K:=aA (PN (g:=g) (kT g m) d HD.o p.aCY.length (lR _));rw[List.take_of_length_le (lR _)] at K;have bc:=aA (PM g p.aCY p.aCY.length);unfold VQ at aa;generalize fX g p.aCY p.aCY.length=L at *;obtain⟨T,ae⟩:∃T,(p.aCY.filter (nV g)).map (kT g m)=T:=⟨_,rfl⟩;rw[ae] at K;have bg:=aA ae;obtain⟨⟨a0,U,a2,a3,a4,a5,V⟩,_⟩:=bI A.o;have Y:=aD A.o;have bo:L.length<=1000000:=lT bc.o bt;clear h hp I IH hm hd ae;go_enter func95,ntmps95;go_wp2_with fail;rw[<-bm.o];refine aa.o.mono ?_;rintro e w1 ⟨v,rfl,ag,j⟩;obtain⟨la,lc,rfl,_⟩:=ag.slice;obtain⟨ah,M,HL⟩:=aY (aC Z.o j) (lT (Nat.le_of_eq bk.o.symm) j.size) ag;clear a0 U a2 a3 a4 a5 V Y;replace A:=qK A j;obtain⟨⟨A0,A1,A2,A3,A4,A5,A6⟩,_⟩:=bI A.o;have zA:=aD A.o;replace R:=qK R j;obtain⟨⟨R0,R1,R2,R3,R4,R5,R6⟩,_⟩:=bI R.o;have zR:=aD R.o;clear j aa ag;go_wp2;go_loopw [5,7,13] (fun v _ i wr=>∃(k f:Nat) (C:oD) (D:Nat),k<=L.length/\i=.int .i64 k/\v=.slice C f D/\Hid (f=k)/\Hid (aM (pZ lv) 7 38 wr w1.heap.size (fun b=>(s b/\b<w.heap.size)\/w1.heap.size<=b) (.slice C f D) ((L.take k).map d))/\Hid (Below w1.heap.size w1 wr)) (fun _ _ i _=>L.length - (intOf i).toNat)
 case atStart=>exact Ry
 case round=>
  obtain⟨k,f,C,D,hk,rfl,rfl,bd,J,G⟩:=hrel;clear A0 A1 A2 A3 A4 A5 A6 zA R0 R1 R2 R3 R4 R5 R6 zR;have P:=qK A G.o;by_cases af:k<L.length
  .have bs:(k:Int)<(L.length:Int):=qo;obtain⟨b,off,rr,rfl,_,bz,⟨rfl,_⟩,N⟩:=aH.at tN (aH.on tN HL.o G.o) af qe;have y0:=N 0 _ rfl;rw[Nat.add_zero,Nat.mul_one] at y0;have ak:=aA (bh.o L[k] (List.getElem_mem af));have ar:Hid ((L.take k).map d++[d L[k]]=(L.take (k+1)).map d):=aA (by rw[List.take_succ_eq_append_getElem af,List.map_append];rfl);have an:=aA (show ((L.take k).map d).length=k by rw[List.length_map,List.length_take];omega);have ad:=aA (HD.o L[k] ak.o);have bp:L[k]<p.aCY.length:=ak.o;clear N;generalize L[k]=q at *;have b8:(q:Int)<(p.aCY.length:Int):=qo;have S:=qB ah G.o;obtain⟨b3,b9,ca,rfl,_,b7,av,N⟩:=aH.at (bB lv) (aH.on (bB lv) HP.o.2.2.2.2.1 S.o) bp qe
   rcases lv with _|lv
   .exact av.elim
   obtain⟨cg,cf,cb,cd,rfl,H⟩:=av;obtain⟨y,z,rfl,_⟩:=H.2.2.1.slice;obtain⟨t,x,rfl,_⟩:=H.2.2.2.1.slice;obtain⟨bw,bx,rfl,_⟩:=H.2.2.2.2.1.slice;obtain⟨n,o,rfl,_⟩:=H.2.2.2.2.2.slice;obtain⟨x0,x1,x2,x3,x4,x5,x6⟩:=CD N;rw[Nat.add_zero] at x0;obtain⟨m2,rfl⟩:∃m2,m=m2+1:=⟨m - 1,qA HM.o⟩;have aq:Hid (fM lv wr (fun b=>s b/\b<w.heap.size) p.aCY[q] (.slice y p.aCY[q].aCU.length z) (.slice t p.aCY[q].aCM.length x) (.slice bw p.aCY[q].aCY.length bx) (.slice n p.aCY[q].aC0.length o)):=aA H;have ab:=aA (bb.o lv rfl m2 (qA HM.o) _ _ p.aCY[q] _ _ _ _ _ g wr H (HS.o.on cA S.o));have bn:=aA (PO g m2 p.aCY[q]);clear N H;generalize p.aCY[q]=r at *;rw[bn.o] at ad;unfold MZ at ab;obtain⟨⟨a0,U,a2,a3,a4,a5,V⟩,_⟩:=bI P.o;have Y:=aD P.o;go_wp2_with fail;refine ab.o.mono ?_;rintro e B ⟨cc,rfl,W,j⟩;obtain⟨E,F,rfl,bu⟩:=W.slice;obtain⟨a,bq⟩:∃a,(r.aCY.filter (nV g)).map (kT g m2)=a:=⟨_,rfl⟩;rw[bq] at W bu ad ⊢;have ay:=qB G j;obtain⟨Q,bf,ai⟩:=aY (aC ay.o (aB B (.cells #[.string r.id,.bool r.set,.int .i64 r.alg,.slice y r.aCU.length z,.slice t r.aCM.length x,.slice E a.length F,.slice n r.aC0.length o] 38))) (aK B (.cells #[.string r.id,.bool r.set,.int .i64 r.alg,.slice y r.aCU.length z,.slice t r.aCM.length x,.slice E a.length F,.slice n r.aC0.length o] 38) B.heap.size qs) (aC j (aB B (.cells #[.string r.id,.bool r.set,.int .i64 r.alg,.slice y r.aCU.length z,.slice t r.aCM.length x,.slice E a.length F,.slice n r.aC0.length o] 38)));obtain⟨aj,ao,bl⟩:=aY (J.o.on (bB (lv+1)) ai.o) J.o.lt G.o.size;have a8:Hid (pZ (lv+1) (B.alloc (.cells #[.string r.id,.bool r.set,.int .i64 r.alg,.slice y r.aCU.length z,.slice t r.aCM.length x,.slice E a.length F,.slice n r.aC0.length o] 38)) (fun b=>((s b/\b<w.heap.size)\/w1.heap.size<=b)/\b<(B.alloc (.cells #[.string r.id,.bool r.set,.int .i64 r.alg,.slice y r.aCU.length z,.slice t r.aCM.length x,.slice E a.length F,.slice n r.aC0.length o] 38)).heap.size/\some b≠(Value.slice C f D).ownBlock) [.string r.id,.bool r.set,.int .i64 r.alg,.slice y r.aCU.length z,.slice t r.aCM.length x,.slice E a.length F,.slice n r.aC0.length o] (.mk r.id r.set r.alg r.aCU r.aCM a r.aC0)):=aA (by
    have O:=aq.o.aCT (aJ ai.o);have X:∀b,(s b/\b<w.heap.size)->((s b/\b<w.heap.size)\/w1.heap.size<=b)/\b<(B.alloc (.cells #[.string r.id,.bool r.set,.int .i64 r.alg,.slice y r.aCU.length z,.slice t r.aCM.length x,.slice E a.length F,.slice n r.aC0.length o] 38)).heap.size/\some b≠(Value.slice C f D).ownBlock:=fun b c=>⟨.inl c,by have h1:=c.2;have h2:=Q.o.size;have h3:=M.o;omega,fun e=>absurd (ao.o b e.symm).1 (by have h1:=c.2;have h3:=M.o;omega)⟩
    refine⟨_,_,_,_,rfl,O.1,O.2.1,aH.more aS O.2.2.1 X,aH.more bM O.2.2.2.1 X,?_,aH.more aO O.2.2.2.2.2 X⟩;refine aH.more (bB lv) (aH.inb (bB lv) (aH.on (bB lv) W (aB B (.cells #[.string r.id,.bool r.set,.int .i64 r.alg,.slice y r.aCU.length z,.slice t r.aCM.length x,.slice E a.length F,.slice n r.aC0.length o] 38)))) fun b c=> ?_
    rcases c.1 with h1|h1
    .exact X b h1
    .exact⟨.inr (lT bl.o h1),c.2,fun e=>absurd (ao.o b e.symm).2 (Nat.not_lt.2 h1)⟩)
   clear ab J aq W j a0 U a2 a3 a4 a5 V Y x0 x1 x2 x3 x4 x5 x6;go_wp2_with (at_builtin;refine cB (base:=w1.heap.size) aCt (bB (lv+1)) rfl (.tmp 17) (.tmp 25) rfl _ ((L.take k).map d) rfl aj.o B.heap.size 1 _ _ _ (.mk r.id r.set r.alg r.aCU r.aCM a r.aC0) rfl bf.o a8.o (by rw[an.o];omega) qo Q.o.size ?_;intro l' ax A' c2 w9 hG aw br;have ba:=aA hG;have az:=aA (aj.o.below Q.o aw (lR _) Q.o.size);have al:=aA ax.o;clear hG aw br ax)
   have a7:Hid (l'.length=k+1):=aA (by rw[al.o,aL,an.o];rfl);go_roundw
   case rel=>exact⟨k+1,l'.length,A',c2,qo,by go_num,rfl,a7,aA (by have h:=ba.o;rw[ad.o] at ar;have e:=al.o.trans ar.o;subst e;exact h),az⟩
   case measure=>simp[intOf];omega
  .have bs:¬(k:Int)<(L.length:Int):=qo;obtain rfl:k=L.length:=qo;have be:Hid (f=T.length):=aA (by rw[bd.o,<-K.o,List.length_map]);have bj:Hid (aH (pZ lv) wr (fun b=>(s b/\b<w.heap.size)\/w1.heap.size<=b) (.slice C f D) T):=aA (by
    have h:=J.o;rw[List.take_of_length_le (lR _),K.o] at h;have e:=be.o;subst e;exact h.sl (by rw[<-K.o,List.length_map];exact bo) _ (fun b c _=>c) (fun b c _=> .inr c) (bB lv))
   have S:=qB ah G.o;have au:=qK R G.o;clear J;obtain⟨⟨a0,U,a2,a3,a4,a5,V⟩,b0,b1,b2,b3,b4,b5,b6⟩:=bI P.o;have Y:=aD P.o;obtain⟨⟨r0,r1,r2,r3,r4,r5,r6⟩,f0,f1,f2,f3,f4,f5,f6⟩:=bI au.o;have zr:=aD au.o;go_wp2;refine bR (.agg #[.string p.id,.bool p.set,.int .i64 p.alg,.slice ta p.aCU.length tc,.slice ra p.aCM.length rc,.slice C f D,.slice oa p.aC0.length oc]) ?_;have hA:¬((s w.heap.size/\w.heap.size<w.heap.size)\/w1.heap.size<=w.heap.size):=fun h=>by have h3:=M.o;rcases h with h|h<;>omega
   have hR:¬((s (w.heap.size+1)/\w.heap.size+1<w.heap.size)\/w1.heap.size<=w.heap.size+1):=fun h=>by have h3:=M.o;rcases h with h|h<;>omega
   refine⟨.slice C f D,rfl,?_,?_⟩
   .rw[bg.o];refine aH.more (bB lv) (ok:=fun b=>(s b/\b<w.heap.size)\/w1.heap.size<=b) ?_ (fun b c=>c.elim (fun h=> .inl h.1) (fun h=> .inr (by have h3:=M.o;omega)))
    repeat (refine aH.aCT (bB lv) ?_ (Qd (by first|exact hA|exact hR)))
    exact bj.o
   .repeat (refine Below.setCell ?_ (by first|exact lR _|exact Nat.le_succ _) _)
    exact S.o
theorem LL:∀lv,Qe lv
 |0=>GW 0 (fun l h=>by omega)
 |lv+1=>GW (lv+1) (fun l h=>by obtain rfl:lv=l:=qo
                               exact LL lv)
theorem QX{lv:Nat}(Z:lv<=3){ok O:nP}(p:Po)(vt vr vk vo vg:Value)(g:List Gv)(w:World)(hp:fM lv w O p vt vr vk vo)(h:aH jN w ok vg g):
 Calls prog 52 #[.agg #[.string p.id,.bool p.set,.int .i64 p.alg,vt,vr,vk,vo],vg] w (LJ (iE g p) w):=by
 obtain⟨ga,gc,rfl,_⟩:=h.slice;obtain⟨P,Q,rfl,_⟩:=hp.2.2.1.slice;obtain⟨ra,rc,rfl,_⟩:=hp.2.2.2.1.slice;obtain⟨ka,kc,rfl,al⟩:=hp.2.2.2.2.1.slice;obtain⟨M,N,rfl,_⟩:=hp.2.2.2.2.2.slice;obtain⟨W0,f⟩:=xE ((w.alloc (.cells (kH p P Q ra rc ka kc M N) 38)).alloc (.cells #[.complex .f64 0 0,.slice none 0 0] 124));have S:Hid (Below w.heap.size w W0):=aA (by rw[f];exact aC (aB _ _) (aB _ _));have A:Hid (W0.heap[w.heap.size]? =some (.cells (kH p P Q ra rc ka kc M N) 38 (0,0))):=aA (by rw[f];exact aE (aK _ _ _ rfl) (aB _ _));have R:Hid (W0.heap[w.heap.size+1]? =some (.cells #[.complex .f64 0 0,.slice none 0 0] 124 (0,0))):=aA (by rw[f];exact aK _ _ _ qs);obtain⟨af,T,W,ad,H⟩:=gC f hp h Z (rY p _ _ _ _ W0 (fM.aCT hp.inb (aJ S.o)));obtain⟨t,K⟩:∃t,fL p=t:=⟨_,rfl⟩;rw[K] at H;have c:Hid (iE g p=if t≠0 then (((0,0),[]),1) else rL g (kT g 4 p)):=aA (by unfold iE;rw[K]);obtain⟨J,X⟩:∃J,iE g p=J:=⟨_,rfl⟩;rw[X] at c ⊢;have an:=uD;obtain⟨⟨a0,a1,a2,a3,a4,a5,a6⟩,_⟩:=bI A.o;have za:=aD A.o;clear h hp f X K Z;go_enter func52,ntmps52;go_wp2_with fail;rw[<-af.o];refine H.o.mono ?_;rintro e w1 ⟨rfl,a⟩;have v:=qB S a;clear a0 a1 a2 a3 a4 a5 a6 za;replace A:=qK A a;obtain⟨⟨l,m,n,o,q,r,s⟩,_⟩:=bI A.o;have D:=aD A.o;replace R:=qK R a;obtain⟨⟨z,B⟩,_⟩:=fJ R.o;have j:=aD R.o;clear H a;by_cases L:t=0
 .subst L;obtain⟨G,F,U⟩:=aY (by have h:=c.o;rwa [iN qo] at h:J=rL g (kT g 4 p)) (LL lv 3 ad.o _ _ p _ _ _ _ _ g w1 (T.o.aCT (aJ v.o)) (W.o.on cA v.o)) (PO g 3 p);unfold MZ at F;clear c;go_wp2_with fail;refine F.o.mono ?_;rintro e w2 ⟨aq,rfl,C,a⟩;obtain⟨ag,ah,rfl,_⟩:=C.slice;have E:=qB v a
  try clear l m n o q r s D
  replace A:=qK A a;obtain⟨⟨l,m,n,o,q,r,s⟩,_⟩:=bI A.o;have D:=aD A.o
  try clear z B j
  replace R:=qK R a;obtain⟨⟨z,B⟩,_⟩:=fJ R.o;have j:=aD R.o;obtain⟨y,Y⟩:∃y,(p.aCY.filter (nV g)).map (kT g 3)=y:=⟨_,rfl⟩;rw[Y] at C U ⊢;have aa:fM lv w2 (fun b=>O b\/w1.heap.size<=b) (.mk p.id p.set p.alg p.aCU p.aCM y p.aC0) (.slice P p.aCU.length Q) (.slice ra p.aCM.length rc) (.slice ag y.length ah) (.slice M p.aC0.length N):=by
   have h0:=(T.o.aCT (aJ E.o)).more (ok':=fun b=>O b\/w1.heap.size<=b) (fun b d=> .inl d);exact⟨h0.1,h0.2.1,h0.2.2.1,h0.2.2.2.1,C,h0.2.2.2.2.2⟩
  have x:=aA (Kh _ _ _ _ _ _ g w2 aa (W.o.on cA E.o));rw[<-U.o,<-G.o] at x;unfold LJ at x;clear F a C aa Y;go_wp2_with fail;refine x.o.mono ?_;rintro e w3 ⟨ao,rfl,I,a⟩;obtain⟨ai,aj,rfl,_⟩:=I.slice;obtain⟨ae,ab,V⟩:=aY I (aC E.o a) j
  try clear l m n o q r s D
  replace A:=qK A a;obtain⟨⟨l,m,n,o,q,r,s⟩,_⟩:=bI A.o;have D:=aD A.o
  try clear z B j
  replace R:=qK R a;obtain⟨⟨z,B⟩,_⟩:=fJ R.o;have j:=aD R.o;have f0:=aR R.o 0;have f1:=aR R.o 1;clear x a I;go_wp2;refine bR (.tuple #[.agg #[.complex .f64 (Cm.qb J.1.1.1) (Cm.qb J.1.1.2),.slice ai J.1.2.length aj],.int .i64 J.2]) ?_;exact⟨_,rfl,aH.more aO (aH.aCT aO ae.o (((aI (g:=w.heap.size+1) (i:=0) _).trans (aI (g:=w.heap.size+1) (i:=1) _)).mono fun k hk d=>by have h1:w2.heap.size<=k:=d;have h2:=V.o;show k≠w.heap.size+1;omega)) (fun b d=>by have h1:w2.heap.size<=b:=d;have h2:=V.o;show w.heap.size<=b;omega),nX ab.o (Nat.le_succ _)⟩
 .have G:=aA (by have h:=c.o;rwa [iP L] at h:J=(((0,0),[]),1));have ak:(t==0)=false:=bN.2 L;have f0:=aR R.o 0;have f1:=aR R.o 1;clear c;go_wp2;refine bR (.tuple #[.agg #[.complex .f64 0 0,.slice none 0 0],.int .i64 1]) ?_;exact Ah G.o (nX v.o (Nat.le_succ _)) rfl rfl
theorem QDi{p:Prop}(h:p:=by
 go_enter func62,ntmps62;go_wp2;go_returns;exact⟨by rw[HE.o];rfl,aB _ _⟩):p:=h
theorem Kn{ok:nP}(s:Sto)(vc vr vn vo vt vu vk vb:Value)(N:bY)(w:World)(h:eZ w ok s vc vr vn vo vt vu vk vb)(i:∀x∈s.aCO,0<=x.aCR/\x.aCR<=s.aCR/\s.aCR<=1099511627776):Calls prog 99 #[.agg (aV s vc vr vn vo vt vu vk vb),.string N] w (aP (.bool (RN s N)) w):=by
 obtain⟨f,g,ra,rc,l,m,n,o,p,q,r,t,j,k,c,d,rfl,_,rfl,_,rfl,_,rfl,_,rfl,_,rfl,_,rfl,_,rfl,_⟩:=h.sl;obtain⟨W0,a⟩:=xE ((w.alloc (.cells (fS s f g ra rc l m n o p q r t j k c d) 40)).alloc (.cells #[.string N] 9));have HB0:Hid (Below w.heap.size w W0):=aA (by rw[a];exact aC (aB _ _) (aB _ _));have A:Hid (W0.heap[w.heap.size]? =some (.cells (fS s f g ra rc l m n o p q r t j k c d) 40 (0,0))):=aA (by rw[a];exact aE (aK _ _ _ rfl) (aB _ _));have B:Hid (W0.heap[w.heap.size+1]? =some (.cells #[.string N] 9 (0,0))):=aA (by rw[a];exact aK _ _ _ qs);have v:=aA a;have HI:=aA (XO _ s.aCO N s.aCR (w.heap.size+1) w.heap.size W0 (aH.on cT h.aCO HB0.o) ⟨⟨aQ B.o 0 _ rfl,aD B.o⟩,⟨aQ A.o 0 _ rfl,aD A.o⟩,i⟩);obtain⟨J,b⟩:∃J,RN s N=J:=⟨_,rfl⟩;have e:s.aCO.any (fun x=>decide (x.aCZ=N)&&(x.open_&&decide (100<=s.aCR - x.aCR)))=J:=b;rw[b];rw[e] at HI;unfold aP aV at *;obtain⟨⟨a0,y,a2,a3,a4,a5,D,E,F,a9,z,C,a12⟩,_⟩:=bS A.o;clear h a e b i;go_enter func99,ntmps99;go_wp2_with fail;rw[<-v.o];exact Rr
theorem Ek{ok:nP}(v:Value)(l:List Ob)(N:bY)(w:World)(h:aH jU w ok v l):Calls prog 58 #[v,.string N] w (aP (.bool (l.any (fun x=>decide (x.aCJ=2)&&decide (x.arg=N)))) w):=by
 obtain⟨la,lc,rfl,_⟩:=h.slice;obtain⟨W0,a⟩:=xE (w.alloc (.cells #[.string N] 9));have HB0:Hid (Below w.heap.size w W0):=aA (by rw[a];exact aB _ _);have B:Hid (W0.heap[w.heap.size]? =some (.cells #[.string N] 9 (0,0))):=aA (by rw[a];exact aK _ _ _ rfl);have b:=aA a;have HI:=aA (TI _ l N w.heap.size W0 (aH.on aO h HB0.o) ⟨aQ B.o 0 _ rfl,aD B.o⟩);generalize l.any (fun x=>decide (x.aCJ=2)&&decide (x.arg=N))=J at *;unfold aP at *;clear h a;go_enter func58,ntmps58;go_wp2_with fail;rw[<-b.o];exact Rr
theorem Ko{ok:nP}(s:Sto)(vc vr vn vo vt vu vk vb:Value)(w:World)(h:eZ w ok s vc vr vn vo vt vu vk vb):Calls prog 62 #[.agg (aV s vc vr vn vo vt vu vk vb)] w (aP (.bool (qM s)) w):=by
 obtain⟨j,k,ra,rc,p,q,r,t,v,y,z,B,n,o,g,i,rfl,_,rfl,_,rfl,_,rfl,_,rfl,_,rfl,_,rfl,_,rfl,_⟩:=h.sl;obtain⟨W0,d⟩:=xE (w.alloc (.cells (fS s j k ra rc p q r t v y z B n o g i) 40));have f:Hid (Below w.heap.size w W0):=aA (by rw[d];exact aB _ _);have A:Hid (W0.heap[w.heap.size]? =some (.cells (fS s j k ra rc p q r t v y z B n o g i) 40 (0,0))):=aA (by rw[d];exact aK _ _ _ rfl);have C:=aA d;have a:=aA (XN _ s.aCK W0 (aH.on dK h.aCK f.o) trivial);have b:Hid (qM s=(decide (256<s.aCO.length)||(decide (256<s.aCS.length)||s.aCK.any (fun x=>decide (256<x.log.length))))):=aA rfl;obtain⟨J,l⟩:∃J,qM s=J:=⟨_,rfl⟩;rw[l] at b ⊢;generalize s.aCK.any (fun x=>decide (256<x.log.length))=c at *;unfold aP aV at *;obtain⟨⟨a0,F,a2,a3,a4,a5,I,K,L,a9,G,H,a12⟩,_⟩:=bS A.o;clear h d l;by_cases h1:256<s.aCO.length
 .have D:decide ((s.aCO.length:Int) > 256)=true:=dX qo;have HE:Hid (J=true):=aA (by rw[b.o,dX h1,Bool.true_or]);clear h1 a;exact QDi
 .have D:decide ((s.aCO.length:Int) > 256)=false:=dF qo;by_cases h2:256<s.aCS.length
  .have E:decide ((s.aCS.length:Int) > 256)=true:=dX qo;have HE:Hid (J=true):=aA (by rw[b.o,dF h1,dX h2];rfl);clear h1 h2 a;exact QDi
  .have E:decide ((s.aCS.length:Int) > 256)=false:=dF qo;have HE:Hid (J=c):=aA (by rw[b.o,dF h1,dF h2];rfl);clear h1 h2;go_enter func62,ntmps62;go_wp2_with fail;rw[<-C.o];refine a.o.mono ?_;rintro e w1 ⟨rfl,m⟩;have HB1:=qB f m;clear m a;exact Hl
theorem YK{ok:nP}(s:Sto)(vc vr vn vo vt vu vk vb:Value)(o:Op)(m:Mk)(hm:Cm.QP m)(w:World)(h:eZ w ok s vc vr vn vo vt vu vk vb)(ht:∀x∈s.aCO,0<=x.aCR/\x.aCR<=s.aCR/\s.aCR<=1099511627776):Calls prog 54 #[.agg (aV s vc vr vn vo vt vu vk vb),fA o,.complex .f64 (Cm.qb m.1) (Cm.qb m.2)] w (aP (.bool (jE s o m)) w):=by
 obtain⟨C,E,ra,rc,N,O,P,Q,R,S,T,U,K,M,y,z,rfl,_,rfl,_,rfl,_,rfl,_,rfl,_,rfl,_,rfl,_,rfl,_⟩:=h.sl;obtain⟨k,su,i,n,r,⟨v1,v2,v3⟩,q,t,p,c⟩:=o;unfold fA bZ;dsimp only;obtain⟨W0,d⟩:=xE ((w.alloc (.cells (fS s C E ra rc N O P Q R S T U K M y z) 40)).alloc (.cells #[.int .i64 k,.string su,.string i,.string n,.string r,.int .i64 v1,.int .i64 v2,.string v3,.int .i64 q,.string t,.string p,.bool c] 46));have V:Hid (Below w.heap.size w W0):=aA (by rw[d];exact aC (aB _ _) (aB _ _));have A:Hid (W0.heap[w.heap.size]? =some (.cells (fS s C E ra rc N O P Q R S T U K M y z) 40 (0,0))):=aA (by rw[d];exact aE (aK _ _ _ rfl) (aB _ _));have B:Hid (W0.heap[w.heap.size+1]? =some (.cells #[.int .i64 k,.string su,.string i,.string n,.string r,.int .i64 v1,.int .i64 v2,.string v3,.int .i64 q,.string t,.string p,.bool c] 46 (0,0))):=aA (by rw[d];exact aK _ _ _ qs);obtain⟨aa,v,Y,HT⟩:=dD d (IQ s _ _ _ _ _ _ _ _ su ⟨#[103,108,97,115,115]⟩ W0 (h.on V.o)) h ht;obtain⟨D,F⟩:∃D,decide (m=(0,4))=D:=⟨_,rfl⟩;obtain⟨Z,J⟩:∃Z,decide (m=(0,0))=Z:=⟨_,rfl⟩;have j:((FloatKind.f64.format.order (Cm.qb m.1) 0==some .eq)&&(FloatKind.f64.format.order (Cm.qb m.2) 4607182418800017408==some .eq))=D:=(Cm.iS m.1 m.2 0 4 hm qe qe).trans ((sB m (0,4)).trans F);have l:((FloatKind.f64.format.order (Cm.qb m.1) 0==some .eq)&&(FloatKind.f64.format.order (Cm.qb m.2) 0==some .eq))=Z:=(Cm.iS m.1 m.2 0 0 hm qe qe).trans ((sB m (0,0)).trans J);obtain⟨H,G⟩:∃H,rS s su ⟨#[103,108,97,115,115]⟩=H:=⟨_,rfl⟩;obtain⟨L,I⟩:∃L,RN s su=L:=⟨_,rfl⟩;have b:Hid (jE s ⟨k,su,i,n,r,(v1,v2,v3),q,t,p,c⟩ m=(c&&((D||Z)&&(H&& !L)))):=aA (by
  rw[<-F,<-J,<-G,<-I];unfold jE NZ;rw[Tr])
 rw[G] at v;have X:Hid (∀w2,Below w.heap.size w w2->Calls prog 99 #[.agg #[.int .i64 s.aCR,.slice C s.aCK.length E,.slice ra s.aCO.length rc,.slice N s.aCS.length O,.slice P s.aCX.length Q,.string s.aCL.id,.bool s.aCL.set,.int .i64 s.aCL.alg,.slice R s.aCL.aCU.length S,.slice T s.aCL.aCM.length U,.slice K s.aCL.aCY.length M,.slice y s.aCL.aC0.length z,.int .i64 s.aCW],.string su] w2 (aP (.bool L) w2)):=aA (fun w2 hb=>by rw[<-I];exact Kn s _ _ _ _ _ _ _ _ su w2 (Y.o.on hb) HT.o);unfold aP aV at *;generalize Cm.qb m.1=ma at *;generalize Cm.qb m.2=mb at *;have f:=aA j;have g:=aA l;clear h d F J G I ht j l hm Y HT
 cases c
 .have HE:=aA b.o;clear b;go_enter func54,ntmps54;exact Xx
 .rcases D with _|_<;>rcases Z with _|_
  .have j:=f.o;have l:=g.o;have HE:=aA b.o;clear b f g;go_enter func54,ntmps54;exact Xx
  all_goals
   have j:=f.o;have l:=g.o;have HE:Hid (jE s ⟨k,su,i,n,r,(v1,v2,v3),q,t,p,true⟩ m=(H&& !L)):=aA b.o;clear b f g;go_enter func54,ntmps54;go_wp2_with fail;rw[<-aa.o];refine v.o.mono ?_;rintro e w1 ⟨rfl,a⟩;have HB1:=qB V a;replace A:=qK A a;obtain⟨⟨A0,A1,A2,A3,A4,A5,A6,A7,A8,A9,ab,ad,ae⟩,_⟩:=bS A.o;have zA:=aD A.o;replace B:=qK B a;obtain⟨⟨B0,B1,B2,B3,B4,B5,B6,B7,B8,B9,af,ag⟩,_⟩:=bL B.o;have zB:=aD B.o;clear a v
   cases H
   .exact Hl
   .have W:=aA (X.o w1 HB1.o);go_wp2_with fail;refine W.o.mono ?_;rintro e w2 ⟨rfl,a⟩;have HB2:=qB HB1 a;clear a W X;exact FU
end Go.Proofs.YtgoanbpcdhmfkaaGreatDoor
