/- Lemmas. -/
import Derived.Test.YthcgdgkpgdjahaaGreatDoorMau
import Derived.Test.YthcgdgkpgdjahaaGreatDoorMay
namespace Go.Proofs.YthcgdgkpgdjahaaGreatDoor
open Go.RowKit
set_option linter.unusedVariables false
set_option linter.unusedSimpArgs false
set_option maxHeartbeats 16000000
open _root_.Go.Proofs.Tryz
set_option maxRecDepth 20000
theorem OG{s:Sto}{o:Op}(h:(s.aDQ.length:Int)<o.aEa):iT s o=10:=by unfold iT;rw[iP h]
theorem SO{s:Sto}{o:Op}{n:Nat}(a:n<s.aDQ.length)(h:o.aEa=(n:Int)+1):iT s o=if s.aDQ[n].open_=false then 10 else if s.aDQ[n].aD3=o.aD3 then 12 else 0:=by
 unfold iT;rw[iN qo,show (o.aEa - 1).toNat=n by omega,gE a]
theorem OH{ok:nP}(s:Sto)(vc vr vn vo vt vu vk vb:Value)(o:Op)(K:0<o.aEa/\o.aEa<=9223372036854775807)(w:World)(h:fM w ok s vc vr vn vo vt vu vk vb):Calls prog 72 #[.agg (aX s vc vr vn vo vt vu vk vb),eZ o] w (aP (.int .i64 (iT s o)) w):=by
 obtain⟨I,J,ra,rc,N,O,P,Q,R,S,T,U,L,M,G,H,rfl,_,rfl,_,rfl,_,rfl,_,rfl,_,rfl,_,rfl,_,rfl,_⟩:=h.sl;obtain⟨k,su,g,i,q,⟨v1,v2,v3⟩,a,t,p,j⟩:=o;dsimp only at K;unfold eZ bX;dsimp only;obtain⟨W0,d⟩:=xE ((w.alloc (.cells (fU s I J ra rc N O P Q R S T U L M G H) 62)).alloc (.cells #[.int .i64 k,.string su,.string g,.string i,.string q,.int .i64 v1,.int .i64 v2,.string v3,.int .i64 a,.string t,.string p,.bool j] 32));have e:Hid (Below w.heap.size w W0):=aA (by rw[d];exact aC (aB _ _) (aB _ _));have A:Hid (W0.heap[w.heap.size]? =some (.cells (fU s I J ra rc N O P Q R S T U L M G H) 62 (0,0))):=aA (by rw[d];exact aE (aK _ _ _ rfl) (aB _ _));have B:Hid (W0.heap[w.heap.size+1]? =some (.cells #[.int .i64 k,.string su,.string g,.string i,.string q,.int .i64 v1,.int .i64 v2,.string v3,.int .i64 a,.string t,.string p,.bool j] 32 (0,0))):=aA (by rw[d];exact aK _ _ _ qs);have F:=aA d;have V:=aA (aH.on cV h.aDQ e.o);have y:=aA (fun (h:(s.aDQ.length:Int)<a)=>(OG (s:=s) (o:=⟨k,su,g,i,q,(v1,v2,v3),a,t,p,j⟩) h));have f:=aA (fun n (m:n<s.aDQ.length) (h:a=(n:Int)+1)=>(SO (s:=s) (o:=⟨k,su,g,i,q,(v1,v2,v3),a,t,p,j⟩) m h));dsimp only at f;unfold aP;unfold aX at *;obtain⟨⟨a0,a1,a2,a3,a4,a5,a6,a7,a8,a9,aa,ab,a12⟩,_⟩:=bW A.o;have za:=aD A.o;obtain⟨⟨b0,b1,b2,b3,b4,b5,b6,b7,b8,b9,ad,ae⟩,_⟩:=bK B.o;have zb:=aD B.o;clear h d;by_cases l:(s.aDQ.length:Int)<a
 .have X:decide (a > (s.aDQ.length:Int))=true:=dX l;have HE:=aA (y.o l);clear l y f;go_enter func72,ntmps72;exact QCe
 .obtain⟨n,m⟩:∃n:Nat,a=(n:Int)+1:=⟨(a - 1).toNat,qo⟩;have D:n<s.aDQ.length:=qo;have HE:=aA (f.o n D m);subst m;have X:decide ((n:Int)+1 > (s.aDQ.length:Int))=false:=dF qo;obtain⟨b,off,r,rfl,_,af,⟨rfl,Y⟩,C⟩:=aH.at cV V.o D qe;have Z:=C 2 _ rfl;have x6:=C 6 _ rfl;have ag:(n:Int)<(s.aDQ.length:Int):=qo;clear l y f C Y K;generalize s.aDQ[n]=x at *;clear D;obtain⟨y1,y2,E,y4,y5,y6,y7⟩:=x;dsimp only at Z x6 HE
  cases y7
  .go_enter func72,ntmps72;go_upto_region 1 with (fail)
   rw[<-F.o];go_wp2;go_returns;exact⟨by rw[HE.o];rfl,e.o⟩
  .go_enter func72,ntmps72;go_upto_region 1 with (fail)
   rw[<-F.o];by_cases c:E=su
   .have W:(E.toList==su.toList)=true:=by rw[jL];exact dX c
    have z:=aA c;clear c;go_wp2;go_quiet (fail)
    have v:=aA (gB e.o ⟨nq,rfl⟩);go_wp2;go_returns;exact⟨by rw[HE.o,iN qe,iP z.o];rfl,v.o⟩
   .have W:(E.toList==su.toList)=false:=by rw[jL];exact dF c
    have z:=aA c;clear c;go_wp2;go_quiet (fail)
    have v:=aA (gB e.o ⟨nq,rfl⟩);go_wp2;go_returns;exact⟨by rw[HE.o,iN qe,iN z.o];rfl,v.o⟩
theorem Fh{s:Sto}{o:Op}(h:gW o=false):dJ s o=1:=by unfold dJ;rw[iP h]
theorem Fi{s:Sto}{o:Op}(h:gW o=true):dJ s o=if o.aDN=1 then (if (aV s o.aDU).2=true then 11 else if 64<=s.aDO.length then 6 else 0) else if o.aDN=2\/o.aDN=3\/o.aDN=4 then gC s o else if o.aDN=5 then iT s o else if o.aDN=6 then (if 64<=s.aD1.length/\qL s o.aDU o.aD7=false then 6 else 0) else if o.aDN=8 then (if 1099511627776 - o.aEa<s.aDX then 6 else 0) else 0:=by unfold dJ;rw[h,iN qe]
theorem LP{ok:nP}(s:Sto)(vc vr vn vo vt vu vk vb:Value)(o:Op)(G:iU o)(w:World)(h:fM w ok s vc vr vn vo vt vu vk vb):Calls prog 32 #[.agg (aX s vc vr vn vo vt vu vk vb),eZ o] w (aP (.int .i64 (dJ s o)) w):=by
 obtain⟨ca,cc,ra,rc,na,nc,oa,oc,ta,tc,ua,uc,ka,kc,ba,bc,rfl,_,rfl,_,rfl,_,rfl,_,rfl,_,rfl,_,rfl,_,rfl,_⟩:=h.sl;have D:=aA (fun w=>VN o G w);have E:=aA (fun w2 (l:Below w.heap.size w w2)=>SI s _ _ _ _ _ _ _ _ o G w2 (h.on l));have O:=aA (fun (S:0<o.aEa/\o.aEa<=9223372036854775807) w2 (l:Below w.heap.size w w2)=>OH s _ _ _ _ _ _ _ _ o S w2 (h.on l));have C:=aA (fun w2 (l:Below w.heap.size w w2)=>JR s _ _ _ _ _ _ _ _ o.aDU w2 (h.on l));have ad:=aA (fun w2 (l:Below w.heap.size w w2)=>JS s _ _ _ _ _ _ _ _ o.aDU o.aD7 w2 (h.on l));have m:=aA (fun (h:gW o=false)=>Fh (s:=s) h);have g:=aA (fun (h:gW o=true)=>Fi (s:=s) h);have M:=aA (fun (h:gW o=true) (Q:o.aDN=5)=>IC h Q);have N:=aA (fun (h:gW o=true) (Q:o.aDN=8)=>wT h Q);have af:bL o.aEa:=G.2.2.2.2.2.2.1;have aq:bL s.aDX:=h.aDX;obtain⟨k,su,i,j,q,⟨v1,v2,v3⟩,d,r,p,n⟩:=o;dsimp only at D E O C ad m g M N af ⊢;unfold bL at af aq;obtain⟨R,hR⟩:∃R,dJ s ⟨k,su,i,j,q,(v1,v2,v3),d,r,p,n⟩=R:=⟨_,rfl⟩;obtain⟨F,hF⟩:∃F,gW ⟨k,su,i,j,q,(v1,v2,v3),d,r,p,n⟩=F:=⟨_,rfl⟩;obtain⟨FI,ae⟩:∃x,aV s i=x:=⟨_,rfl⟩;rw[hR] at m g ⊢;rw[hF] at D m g M N;rw[ae] at C g;generalize gC s ⟨k,su,i,j,q,(v1,v2,v3),d,r,p,n⟩=P at *;generalize iT s ⟨k,su,i,j,q,(v1,v2,v3),d,r,p,n⟩=RL at *;generalize qL s i j=HA at *;obtain⟨ar,fb⟩:=FI;dsimp only at C g;unfold eZ bX aX aP at *;obtain⟨W0,v⟩:=xE ((w.alloc (.cells (fU s ca cc ra rc na nc oa oc ta tc ua uc ka kc ba bc) 62)).alloc (.cells #[.int .i64 k,.string su,.string i,.string j,.string q,.int .i64 v1,.int .i64 v2,.string v3,.int .i64 d,.string r,.string p,.bool n] 32))
 have ag:Hid (Below w.heap.size w W0):=aA (by rw[v];exact aC (aB _ _) (aB _ _));have A:Hid (W0.heap[w.heap.size]? =some (.cells (fU s ca cc ra rc na nc oa oc ta tc ua uc ka kc ba bc) 62 (0,0))):=aA (by rw[v];exact aE (aK _ _ _ rfl) (aB _ _));have B:Hid (W0.heap[w.heap.size+1]? =some (.cells #[.int .i64 k,.string su,.string i,.string j,.string q,.int .i64 v1,.int .i64 v2,.string v3,.int .i64 d,.string r,.string p,.bool n] 32 (0,0))):=aA (by rw[v];exact aK _ _ _ qs);have aj:=aA v;obtain⟨⟨a0,a1,a2,a3,a4,a5,a6,a7,a8,a9,ak,al,a12⟩,_⟩:=bW A.o;have za:=aD A.o;obtain⟨⟨b0,b1,b2,b3,b4,b5,b6,b7,b8,b9,an,ao⟩,_⟩:=bK B.o;have zb:=aD B.o;clear h v hR hF ae G;go_enter func32,ntmps32;go_wp2_with fail;rw[<-aj.o];refine(D.o _).mono ?_;rintro e w1 ⟨rfl,a⟩;have HB1:=qB ag a;clear a0 a1 a2 a3 a4 a5 a6 a7 a8 a9 ak al a12 za b0 b1 b2 b3 b4 b5 b6 b7 b8 b9 an ao zb D;replace A:=qK A a;obtain⟨⟨T,U,Y,Z,A4,A5,A6,A7,A8,A9,V,W,X⟩,_⟩:=bW A.o;have zA:=aD A.o;replace B:=qK B a;obtain⟨⟨B0,B1,B2,B3,B4,B5,B6,B7,B8,B9,aa,ab⟩,_⟩:=bK B.o;have zB:=aD B.o;clear a
 cases F
 .have HE:=aA (m.o rfl);clear m g;exact Jw
 have b:=aA (g.o rfl);clear m g;by_cases H:k=1
 .subst H;have HE:Hid (R=if fb=true then 11 else if 64<=s.aDO.length then 6 else 0):=aA (by rw[b.o];rfl);clear b;go_wp2_with fail;refine(C.o _ HB1.o).mono ?_;rintro e w2 ⟨rfl,a⟩;have HB2:=qB HB1 a
  try clear T U Y Z A4 A5 A6 A7 A8 A9 V W X zA
  replace A:=qK A a;obtain⟨⟨T,U,Y,Z,A4,A5,A6,A7,A8,A9,V,W,X⟩,_⟩:=bW A.o;have zA:=aD A.o
  try clear B0 B1 B2 B3 B4 B5 B6 B7 B8 B9 aa ab zB
  replace B:=qK B a;obtain⟨⟨B0,B1,B2,B3,B4,B5,B6,B7,B8,B9,aa,ab⟩,_⟩:=bK B.o;have zB:=aD B.o;clear a
  cases fb
  .by_cases c:64<=s.aDO.length
   .have t:decide ((s.aDO.length:Int) ≥ 64)=true:=dX qo;have f:=aA c;clear c;go_wp2;go_returns;exact⟨by rw[HE.o,iN qe,iP f.o];rfl,HB2.o⟩
   .have t:decide ((s.aDO.length:Int) ≥ 64)=false:=dF qo;have f:=aA c;clear c;go_wp2;go_returns;exact⟨by rw[HE.o,iN qe,iN f.o];rfl,HB2.o⟩
  .exact GZ
 have d1:(k==1)=false:=bN.2 H;by_cases I:k=2
 .subst I;have HE:Hid (R=P):=aA (by rw[b.o];rfl);clear b;go_wp2_with fail;refine(E.o _ HB1.o).mono ?_;rintro e w2 ⟨rfl,a⟩;have HB2:=qB HB1 a;clear a;exact GZ
 have d2:(k==2)=false:=bN.2 I;by_cases J:k=3
 .subst J;have HE:Hid (R=P):=aA (by rw[b.o];rfl);clear b;go_wp2_with fail;refine(E.o _ HB1.o).mono ?_;rintro e w2 ⟨rfl,a⟩;have HB2:=qB HB1 a;clear a;exact GZ
 have d3:(k==3)=false:=bN.2 J;by_cases K:k=4
 .subst K;have HE:Hid (R=P):=aA (by rw[b.o];rfl);clear b;go_wp2_with fail;refine(E.o _ HB1.o).mono ?_;rintro e w2 ⟨rfl,a⟩;have HB2:=qB HB1 a;clear a;exact GZ
 have d4:(k==4)=false:=bN.2 K;by_cases y:k=5
 .have S:=M.o rfl y;subst y;have HE:Hid (R=RL):=aA (by rw[b.o];rfl);have ai:=aA (O.o ⟨S,qo⟩ _ HB1.o);clear b O;go_wp2_with fail;refine ai.o.mono ?_;rintro e w2 ⟨rfl,a⟩;have HB2:=qB HB1 a;clear a;exact GZ
 have d5:(k==5)=false:=bN.2 y;by_cases L:k=6
 .subst L;have HE:Hid (R=if 64<=s.aD1.length/\HA=false then 6 else 0):=aA (by rw[b.o];rfl);clear b;by_cases c:64<=s.aD1.length
  .have t:decide ((s.aD1.length:Int) ≥ 64)=true:=dX qo;have f:=aA c;clear c;go_wp2_with fail;refine(ad.o _ HB1.o).mono ?_;rintro e w2 ⟨rfl,a⟩;have HB2:=qB HB1 a;clear a
   cases HA
   .go_wp2;go_returns;exact⟨by rw[HE.o,iP ⟨f.o,by trivial⟩];rfl,HB2.o⟩
   .go_wp2;go_returns;exact⟨by rw[HE.o,iN (fun h=>absurd h.2 qe)];rfl,HB2.o⟩
  .have t:decide ((s.aD1.length:Int) ≥ 64)=false:=dF qo;have f:=aA c;clear c;go_wp2;go_returns;exact⟨by rw[HE.o,iN (fun h=>f.o h.1)];rfl,HB1.o⟩
 have d6:(k==6)=false:=bN.2 L;by_cases z:k=8
 .obtain⟨au,av⟩:=N.o rfl z;subst z;have HE:Hid (R=if 1099511627776 - d<s.aDX then 6 else 0):=aA (by rw[b.o];rfl);clear b;by_cases c:1099511627776 - d<s.aDX
  .have t:decide (s.aDX > 1099511627776 - d)=true:=dX c;have f:=aA c;clear c;go_wp2;go_returns;exact⟨by rw[HE.o,iP f.o];rfl,HB1.o⟩
  .have t:decide (s.aDX > 1099511627776 - d)=false:=dF c;have ah:Hid (R=0):=aA (by rw[HE.o,iN c]);clear c HE;go_wp2;go_returns;exact⟨by rw[ah.o];rfl,HB1.o⟩
 have d8:(k==8)=false:=bN.2 z;have HE:Hid (R=0):=aA (by rw[b.o,iN H,iN (fun h=>h.elim I (fun h=>h.elim J K)),iN y,iN L,iN z]);clear b H I J K y L z;exact Jw
theorem QDf{p:Prop}(h:p:=by
 exact(((((HP.o.set qo).set qo).set qo).set qo).set qo)):p:=h
theorem QCT{p:Prop}(h:p:=by
 exact cZ.end ((((((HK.o.set qo).set qo).set qo).set qo).set qo))):p:=h
theorem QBl{p:Prop}(h:p:=by
 exact aH.more aO (aH.set aO (aH.set aO (aH.set aO (aH.set aO (aH.set aO (HSo.o) qh) qh) qh) qh) qh) (fun b hb=>by have:=hb.1;show w.heap.size<=b;omega)):p:=h
theorem QBi{p:Prop}(h:p:=by
 exact aH.more aS (aH.set aS (aH.set aS (aH.set aS (aH.set aS (aH.set aS (HSt.o) qh) qh) qh) qh) qh) (fun b hb=>by have:=hb.1;show w.heap.size<=b;omega)):p:=h
theorem aH.set{α:Type}{R:Rep α}{s:Nat}(F:Firm R s){w:World}{ok:nP}{v u:Value}{l:List α}{b i:Nat}(h:aH R w ok v l)(a:¬ok b):aH R (w.setCell ⟨b,i,none⟩ u) ok v l:=
 h.aDW F ((aI u).mono fun k _ c e=>a (e▸c))
theorem aH.new{α:Type}{R:Rep α}{s:Nat}(F:Firm R s){w:World}{ok:nP}{v:Value}{l:List α}{o:Obj}(h:aH R w ok v l):aH R (w.alloc o) ok v l:=h.on F (aB w o)
theorem aH.aD5{α:Type}{R:Rep α}{s:Nat}(F:Firm R s){w w':World}{ok:nP}{v:Value}{l:List α}{g:Nat}(h:aH R w ok v l)(k:aN (fun b=>b≠g) w w')(a:¬ok g):aH R w' ok v l:=
 h.aDW F (k.mono fun k _ c e=>a (e▸c))
def zE(L:List Tok)(g:Nat)(w:World)(r:Ru)(p':PS)(e:Ending)(w':World):Prop:=
 ∃vt vc vo,e=.returned (.agg #[.string r.id,.bool r.aEp,vt,vc,vo])/\sC w' (fun b=>w.heap.size<=b) r vt vc vo/\PW L w' g p'/\aN (fun b=>b≠g) w w'
abbrev zRu:Array Value:=#[.string ⟨#[]⟩,.bool false,.slice none 0 0,.slice none 0 0,.slice none 0 0]
theorem Xg{L:List Tok}{p:PS}(T:Toks L)(deny:Bool)(hp:p.at_<L.length)(g:Nat)(w:World)(h:PW L w g p)(D:cM L (str "if") (bU L (bT L p).2).2=true):
 Calls prog 183 #[.pointer (some ⟨g,0,none⟩),.bool deny] w (zE L g w (kW L deny p).1 (kW L deny p).2):=by
 have hL:=T.len;have ah:=h.lt;have HP:=aA h;have m1:=jK T hp;have m2:=mB T m1.lt;have M:=aA (fun w h=>rP T hp g w h);have I:=aA (fun w h=>tZ T m1.lt g w h);have C:=aA (fun w h=>eR T (str "if") m2.lt g w h);have V:=aA (rT T hp);have m3:=fQ T m2.lt D;have m4:=GK T [] false m3.lt;have J:=DV T L.length [] false m3.lt;have Y:Hid ((jI L [] false {(bU L (bT L p).2).2 with at_:=(bU L (bT L p).2).2.at_+1}).1.length<=100000):=aA (by
  have O:=m4.lt;have hy:(jI L [] false {(bU L (bT L p).2).2 with at_:=(bU L (bT L p).2).2.at_+1})=iH L L.length [] false {(bU L (bT L p).2).2 with at_:=(bU L (bT L p).2).2.at_+1}:=rfl;rw[hy] at O ⊢;simp only[List.length_nil] at J;dsimp only at J O ⊢;omega)
 have H:=aA (fun B v w h=>LF T (AO T L.length) [] false {(bU L (bT L p).2).2 with at_:=(bU L (bT L p).2).2.at_+1} g B v w h);have W:=aA m3.lt;have N:kW L deny p=(⟨(bT L p).1,deny,(bU L (bT L p).2).1,(jI L [] false {(bU L (bT L p).2).2 with at_:=(bU L (bT L p).2).2.at_+1}).1,(gR L (jI L [] false {(bU L (bT L p).2).2 with at_:=(bU L (bT L p).2).2.at_+1}).2).1⟩,eN L (str ";") (gR L (jI L [] false {(bU L (bT L p).2).2 with at_:=(bU L (bT L p).2).2.at_+1}).2).2):=by
  unfold kW;dsimp only;rw[iP D]
 rw[mP D] at C;have F:=aA (fun w h=>vL T m4.lt g w h);have m5:=vI T m4.lt;have G:=aA (fun w h=>mO T (str ";") m5.lt g w h);rw[N];unfold zE;unfold iL at I F;clear h m1 m2 m3 J m4 m5 N D;generalize bT L p=K at *;generalize bU L K.2=j at *;have X:Hid (jI L [] false {j.2 with at_:=j.2.at_+1}=iH L L.length [] false {j.2 with at_:=j.2.at_+1}):=aA rfl;rw[<-X.o] at H;generalize jI L [] false {j.2 with at_:=j.2.at_+1}=P at *;generalize gR L P.2=Q at *;generalize eN L (str ";") Q.2=r5 at *;rw[Ix] at G;rw[Zj] at C;dsimp only;go_enter func183,ntmps183;have HK:=aA (cZ.refl w.heap.size g w);go_wp2_with fail;refine(M.o _ (HP.o.alloc)).mono ?_;rintro e w1 ⟨rfl,d,a⟩;obtain⟨c,HK,HP⟩:=aZ (aF (aK _ _ _ qs) a qo:w1.heap[w.heap.size]? =some (.cells zRu 269 (0,0))) (HK.o.alloc.aD5 a) d;clear d a;have ak:=aD c.o;have ay:=HP.o.lt;clear M;go_wp2_with fail;refine(I.o _ HP.o).mono ?_;rintro e w2 ⟨vt,rfl,i,d,a⟩;obtain⟨R,S,rfl,aj⟩:=i.slice;obtain⟨c,HK,HP⟩:=aZ (aF (c.o) a qo) (HK.o.aD5 a) d;clear d a;have al:=aD c.o;have az:=HP.o.lt;have HSt:=aA (aH.more aS (aH.inb aS i) (ok':=fun b=>w.heap.size<b/\b≠w2.heap.size) (fun b hb=>⟨by have:w1.heap.size<=b:=hb.1;show w.heap.size<b;omega,by have:=hb.2;show b≠w2.heap.size;omega⟩));clear i I;go_wp2_with fail;refine(C.o _ (HP.o.alloc)).mono ?_;rintro e l ⟨rfl,d,a⟩;obtain⟨c,f,HK,HP⟩:=dH (aF (aE (c.o) (aB _ _)) a qo) (aF (aK _ _ _ qs) a qo:l.heap[w2.heap.size]? =some (.cells #[.string K.1,.bool deny,.slice R j.1.length S,.slice none 0 0,.slice none 0 0] 269 (0,0))) (HK.o.alloc.aD5 a) d
 have HSt:=aA (aH.aD5 aS (aH.new aS (HSt.o)) a qh);clear d a;have an:=aD c.o;have au:=aD f.o;have a1:=HP.o.lt;clear C;obtain⟨⟨m,n,o,q,r⟩,s,t,x,y,z⟩:=dM f.o;go_wp2_with fail;refine(H.o l.heap.size (.slice none 0 0) l ⟨by show L.length<=L.length+(j.2.at_+1);omega,W.o,qs,HP.o.lt,lR _,HP.o,aM.nil⟩).mono ?_;rintro e U ⟨vc,rfl,E⟩;have a:aN (fun b=>b≠g) l U:=aN.mono E.fr (fun k _ h=>⟨h,by simp[Value.ownBlock]⟩);have d:=E.pw;have i:=aM.sl E.row (qA Y.o) (fun b=>l.heap.size<=b) (fun b hb _=>hb.elim) (fun b hb _=>hb) dQ;obtain⟨Z,cc,rfl,ag⟩:=i.slice;obtain⟨c,f,HK,HP⟩:=dH (aF (c.o) a qo) (aF (f.o) a qo) (HK.o.aD5 a) d;have HSt:=aA (aH.aD5 aS (HSt.o) a qh);clear d a m n o q r s t x y z;have ao:=aD c.o;have av:=aD f.o;have a6:=HP.o.lt;have A:=aA (aH.more dQ (aH.inb dQ i) (ok':=fun b=>w.heap.size<b/\b≠w2.heap.size) (fun b hb=>⟨by have:l.heap.size<=b:=hb.1;show w.heap.size<b;omega,by have:l.heap.size<=b:=hb.1;show b≠w2.heap.size;omega⟩));clear i E H;obtain⟨⟨m,n,o,q,r⟩,s,t,x,y,z⟩:=dM f.o;go_wp2_with fail;refine(F.o _ ((HP.o.set qo))).mono ?_;rintro e w5 ⟨vo,rfl,i,d,a⟩;obtain⟨oa,oc,rfl,ai⟩:=i.slice;obtain⟨c,f,HK,HP⟩:=dH (aF (bE (c.o) qo) a qo) (aF (aA0 (f.o) _) a qo) ((HK.o.set qo).aD5 a) d;have HSt:=aA (aH.aD5 aS (aH.set aS (HSt.o) qh) a qh);have A:=aA (aH.aD5 dQ (aH.set dQ (A.o) qh) a qh)
 clear d a m n o q r s t x y z;have aq:=aD c.o;have aw:=aD f.o;have a7:=HP.o.lt;have HSo:=aA (aH.more aO (aH.inb aO i) (ok':=fun b=>w.heap.size<b/\b≠w2.heap.size) (fun b hb=>by have h1:=hb.1;(try simp only[World.setCell,Array.size_modify] at h1);have h3:U.heap.size<=b:=h1;exact⟨by show w.heap.size<b;omega,by show b≠w2.heap.size;omega⟩));clear i F;obtain⟨⟨m,n,o,q,r⟩,s,t,x,y,z⟩:=dM f.o;go_wp2_with fail;refine(G.o _ ((HP.o.set qo))).mono ?_;rintro e w6 ⟨rfl,d,a⟩;obtain⟨c,f,HK,HP⟩:=dH (aF (bE (c.o) qo) a qo) (aF (Tv (f.o) _) a qo) ((HK.o.set qo).aD5 a) d;have HSt:=aA (aH.aD5 aS (aH.set aS (HSt.o) qh) a qh);have A:=aA (aH.aD5 dQ (aH.set dQ (A.o) qh) a qh);have HSo:=aA (aH.aD5 aO (aH.set aO (HSo.o) qh) a qh);clear d a m n o q r s t x y z;have ar:=aD c.o;have ax:=aD f.o;have a8:=HP.o.lt;clear G;obtain⟨⟨m,n,o,q,r⟩,s,t,x,y,z⟩:=dM f.o;obtain⟨⟨R0,R1,R2,R3,R4⟩,aa,ab,ad,ae,af⟩:=dM c.o;go_wp2;refine bR (.agg #[.string K.1,.bool deny,.slice R j.1.length S,.slice Z P.1.length cc,.slice oa Q.1.length oc]) ?_;refine⟨_,_,_,rfl,⟨lT V.o (by unfold cQ;omega),?_,?_,?_⟩,?_,?_⟩
 .exact QBi
 .exact aH.more dQ (aH.set dQ (aH.set dQ (aH.set dQ (aH.set dQ (aH.set dQ (A.o) qh) qh) qh) qh) qh) (fun b hb=>by have:=hb.1;show w.heap.size<=b;omega)
 .exact QBl
 .exact QDf
 .exact QCT
theorem Xh{L:List Tok}{p:PS}(T:Toks L)(deny:Bool)(hp:p.at_<L.length)(g:Nat)(w:World)(h:PW L w g p)(A:cM L (str "if") (bU L (bT L p).2).2=false):
 Calls prog 183 #[.pointer (some ⟨g,0,none⟩),.bool deny] w (zE L g w (kW L deny p).1 (kW L deny p).2):=by
 have Y:=T.len;have Z:=h.lt;have HP:=aA h;have m1:=jK T hp;have m2:=mB T m1.lt;have D:=aA (fun w h=>rP T hp g w h);have z:=aA (fun w h=>tZ T m1.lt g w h);have j:=aA (fun w h=>eR T (str "if") m2.lt g w h);have J:=aA (rT T hp);have m4:=dK.refl m2.lt;have E:kW L deny p=(⟨(bT L p).1,deny,(bU L (bT L p).2).1,[],(gR L (bU L (bT L p).2).2).1⟩,eN L (str ";") (gR L (bU L (bT L p).2).2).2):=by
  unfold kW;dsimp only;rw[iN (by rw[A];decide)]
 rw[kH A] at j;have x:=aA (fun w h=>vL T m4.lt g w h);have m5:=vI T m4.lt;have y:=aA (fun w h=>mO T (str ";") m5.lt g w h);rw[E];unfold zE;unfold iL at z x;clear h m1 m2 m4 m5 E A;generalize bT L p=B at *;generalize bU L B.2=C at *;generalize gR L C.2=F at *;generalize eN L (str ";") F.2=r5 at *;rw[Ix] at y;rw[Zj] at j;dsimp only;go_enter func183,ntmps183;have HK:=aA (cZ.refl w.heap.size g w);go_wp2_with fail;refine(D.o _ (HP.o.alloc)).mono ?_;rintro e w1 ⟨rfl,d,a⟩;obtain⟨c,HK,HP⟩:=aZ (aF (aK _ _ _ qs) a qo:w1.heap[w.heap.size]? =some (.cells zRu 269 (0,0))) (HK.o.alloc.aD5 a) d;clear d a;have ad:=aD c.o;have al:=HP.o.lt;clear D;go_wp2_with fail;refine(z.o _ HP.o).mono ?_;rintro e w2 ⟨vt,rfl,i,d,a⟩;obtain⟨G,H,rfl,ab⟩:=i.slice;obtain⟨c,HK,HP⟩:=aZ (aF (c.o) a qo) (HK.o.aD5 a) d;clear d a;have ae:=aD c.o;have an:=HP.o.lt;have HSt:=aA (aH.more aS (aH.inb aS i) (ok':=fun b=>w.heap.size<b/\b≠w2.heap.size) (fun b hb=>⟨by have:w1.heap.size<=b:=hb.1;show w.heap.size<b;omega,by have:=hb.2;show b≠w2.heap.size;omega⟩));clear i z;go_wp2_with fail;refine(j.o _ (HP.o.alloc)).mono ?_;rintro e I ⟨rfl,d,a⟩;obtain⟨c,f,HK,HP⟩:=dH (aF (aE (c.o) (aB _ _)) a qo) (aF (aK _ _ _ qs) a qo:I.heap[w2.heap.size]? =some (.cells #[.string B.1,.bool deny,.slice G C.1.length H,.slice none 0 0,.slice none 0 0] 269 (0,0))) (HK.o.alloc.aD5 a) d;have HSt:=aA (aH.aD5 aS (aH.new aS (HSt.o)) a qh);clear d a;have af:=aD c.o;have ai:=aD f.o;have ao:=HP.o.lt;clear j;obtain⟨⟨k,l,m,n,o⟩,q,r,s,t,v⟩:=dM f.o
 go_wp2_with fail;refine(x.o _ (HP.o)).mono ?_;rintro e w4 ⟨vo,rfl,i,d,a⟩;obtain⟨K,M,rfl,aa⟩:=i.slice;obtain⟨c,f,HK,HP⟩:=dH (aF (c.o) a qo) (aF (f.o) a qo) (HK.o.aD5 a) d;have HSt:=aA (aH.aD5 aS (HSt.o) a qh);clear d a k l m n o q r s t v;have ag:=aD c.o;have aj:=aD f.o;have aq:=HP.o.lt;have HSo:=aA (aH.more aO (aH.inb aO i) (ok':=fun b=>w.heap.size<b/\b≠w2.heap.size) (fun b hb=>by have h1:=hb.1;(try simp only[World.setCell,Array.size_modify] at h1);have h3:I.heap.size<=b:=h1;exact⟨by show w.heap.size<b;omega,by show b≠w2.heap.size;omega⟩));clear i x;obtain⟨⟨k,l,m,n,o⟩,q,r,s,t,v⟩:=dM f.o;go_wp2_with fail;refine(y.o _ ((HP.o.set qo))).mono ?_;rintro e w5 ⟨rfl,d,a⟩;obtain⟨c,f,HK,HP⟩:=dH (aF (bE (c.o) qo) a qo) (aF (Tv (f.o) _) a qo) ((HK.o.set qo).aD5 a) d;have HSt:=aA (aH.aD5 aS (aH.set aS (HSt.o) qh) a qh);have HSo:=aA (aH.aD5 aO (aH.set aO (HSo.o) qh) a qh);clear d a k l m n o q r s t v;have ah:=aD c.o;have ak:=aD f.o;have ar:=HP.o.lt;clear y;obtain⟨⟨k,l,m,n,o⟩,q,r,s,t,v⟩:=dM f.o;obtain⟨⟨N,O,P,Q,R⟩,S,U,V,W,X⟩:=dM c.o;go_wp2;refine bR (.agg #[.string B.1,.bool deny,.slice G C.1.length H,.slice none 0 0,.slice K F.1.length M]) ?_;refine⟨_,_,_,rfl,⟨lT J.o (by unfold cQ;omega),?_,?_,?_⟩,?_,?_⟩
 .exact QBi
 .exact aH.nil
 .exact QBl
 .exact QDf
 .exact QCT
theorem Rj{L:List Tok}{p:PS}(T:Toks L)(deny:Bool)(hp:p.at_<L.length)(g:Nat)(w:World)(h:PW L w g p):
 Calls prog 183 #[.pointer (some ⟨g,0,none⟩),.bool deny] w (zE L g w (kW L deny p).1 (kW L deny p).2):=by
 cases a:cM L (str "if") (bU L (bT L p).2).2
 .exact Xh T deny hp g w h a
 .exact Xg T deny hp g w h a
theorem QCq{p:Prop}(h:p:=by
 rw[iP h1] at h;dsimp only at h;rw[h2,show cR L false q=q from by unfold cR;rw[iN qe],iN (fun hh=>hh hq)] at h;exact h):p:=h
theorem QBV{p:Prop}(h:p:=by
 exact⟨[],p,none,0,rfl,aA ⟨HR0.o,hp,qo,qs,hru,aM.nil,HP.o,HK.o⟩⟩):p:=h
theorem Uq{p:Prop}(h:p:=by
 obtain⟨A_,c_,c0,c1,c2,c3,c4,hs_⟩:=HP1.o.cells;have hg1:=HP1.o.lt;clear hs_ c0 c1 c3 c4;go_wp2_with fail;refine(HLM.o true q hq _ HP1.o).mono ?_;rintro e w2 ⟨rfl,h_,k_⟩;have HP2:=aA h_;have HK2:=aA (HK1.o.aD5 k_);have HG2:=aA (HG1.o.aD5 bM k_ hgl);clear h_ k_ c2;obtain⟨A_,c_,c0,c1,c2,c3,c4,hs_⟩:=HP2.o.cells;have hg2:=HP2.o.lt;clear hs_ c0 c1 c2 c4;go_wp2;go_ret;refine⟨_,rfl,?_,?_,HK2.o.end⟩
 .rw[HS.o];exact HG2.o.sl qo _ (fun b hb _=>hb) (fun b hb _=>hb) bM
 .rw[HS.o];exact HP2.o):p:=h
theorem QAe{p:Prop}(h:p:=by
 obtain⟨A_,c_,c0,c1,c2,c3,c4,hs_⟩:=HP1.o.cells;have hg1:=HP1.o.lt;clear hs_ c0 c1 c3 c4;have HLF:=aA (HLM.o false q hq w1 HP1.o);rw[hlf] at HLF;clear HLM hlf;go_wp2_with fail;refine HLF.o.mono ?_;rintro e w2 ⟨rfl,h_,k_⟩;have HP2:=aA h_;have HK2:=aA (HK1.o.aD5 k_);have HG2:=aA (HG1.o.aD5 bM k_ hgl);clear h_ k_ c2 HLF HP1 HK1 HG1;obtain⟨A_,c_,c0,c1,c2,c3,c4,hs_⟩:=HP2.o.cells;have pf2:=HP2.o.free 2;have hg2:=HP2.o.lt;rw[hqb] at c3;clear hs_ c0 c1 c4;go_wp2_with fail;refine(HI3.o _ (HP2.o.aE3 (by go_num))).mono ?_;rintro e w3 ⟨rfl,hb_⟩;have HP3:=aA ((HP2.o.aE3 (v:= .int .i64 ((q.aDR:Int)+1)) (by go_num)).on hb_);have HK3:=aA (HK2.o.step.new hb_);have HG3:=aA ((HG2.o.stepG bM hgl).on bM hb_);clear hb_ HI3 HP2 HK2 HG2 c2 c3 pf2;obtain⟨A_,c_,c0,c1,c2,c3,c4,hs_⟩:=HP3.o.cells;have pf1:=HP3.o.free 1;have hg3:=HP3.o.lt;clear hs_ c0 c2 c3 c4;unfold zE at HRX;go_wp2_with fail;refine(HRX.o _ (HP3.o.step (by go_num))).mono ?_;rintro e w4 ⟨vt,vc,vo,rfl,hs_,h_,k_⟩;obtain⟨ta,tc,rfl,_⟩:=hs_.2.1.slice;obtain⟨ca,cc,rfl,_⟩:=hs_.2.2.1.slice;obtain⟨oa,oc,rfl,_⟩:=hs_.2.2.2.slice;have HP4:=aA h_;have HK4:=aA (HK3.o.step.aD5 k_);have HG4:=aA ((HG3.o.stepG bM hgl).aD5 bM k_ hgl);have HSX:=aA hs_;have hz3:w.heap.size<=w3.heap.size:=HK3.o.size;have HGO:=aA (fun b e=>(HG3.o.lt b e).2);clear hs_ h_ k_ HRX HP3 HK3 HG3 c1 pf1;have hz4:w.heap.size<=w4.heap.size:=HK4.o.size;have HX:=aA (aB w4 (.cells #[.string r2.1.id,.bool r2.1.aEp,.slice ta r2.1.aDY.length tc,.slice ca r2.1.cond.length cc,.slice oa r2.1.aD4.length oc] 269))
 have HXN:=aA (aK w4 (.cells #[.string r2.1.id,.bool r2.1.aEp,.slice ta r2.1.aDY.length tc,.slice ca r2.1.cond.length cc,.slice oa r2.1.aD4.length oc] 269) _ rfl);have HGX:=aA (HG4.o.on bM HX.o);have HPX:=aA (HP4.o.on HX.o);have HKX:=aA (HK4.o.new HX.o);have HSY:=aA (sC.more (sC.aDW (sC.inb HSX.o) (aJ HX.o)) (ok':=fun b=>w.heap.size<=b/\b<(w4.alloc (.cells #[.string r2.1.id,.bool r2.1.aEp,.slice ta r2.1.aDY.length tc,.slice ca r2.1.cond.length cc,.slice oa r2.1.aD4.length oc] 269)).heap.size/\some b≠(Value.slice A l.length c).ownBlock) (fun b hb'=>by
  have h1:=hb'.1;have h2:=hb'.2;simp only[World.setCell,Array.size_modify] at h1;have h3:w3.heap.size<=b:=h1;refine⟨qo,by rw[World.size_alloc];omega,fun e=> ?_⟩;have:=HGO.o b e.symm;omega))
 go_wp2_with (at_builtin;refine cC aA9 bM rfl (.tmp 44) (.tmp 48) rfl _ l rfl HGX.o w4.heap.size 1 _ _ _ r2.1 rfl HXN.o ⟨_,_,_,rfl,HSY.o⟩ qo qo (by rw[World.size_alloc];omega) ?_;intro l' hl' A' c' w9 hG hgr hat';have HG5:=aA hG;have HP5:=aA (HPX.o.grown HGX.o hgr hgl);have HK5:=aA (HKX.o.grown HGX.o hgr (lR _));clear hG hgr hat' HX HXN HGX HPX HKX HSX HSY HG4 HP4 HK4)
 rw[<-hl'.o] at HS;have HL2:Hid (l'.length=l.length+1):=aA (by rw[hl'.o,aL,List.length_singleton]);go_roundg f'
 case measure=>rw[HF.o];omega
 case rel=>exact⟨l',_,A',c',rfl,aA ⟨HS.o,hq2,qA HF.o,qA HL2.o,hru3,HG5.o,HP5.o,HK5.o⟩⟩):p:=h
structure Bv {α:Type} (R:Rep α) (s:Nat) (e:TypeId) (L:List Tok) (g:Nat) (w:World) (f:Nat) (v:Value) (wr:World) (l:List α) (q:PS) (res:Prop):Prop where
 res:res
 at_:q.at_<L.length
 fuel:L.length<=f+q.at_
 len:l.length<=q.at_+1
 aDR:q.aDR<=64
 row:aM R s e wr w.heap.size (fun b=>w.heap.size<=b) v l
 pw:PW L wr g q
 aDW:cZ w.heap.size g w wr
def aA8(L:List Tok)(g:Nat)(w:World)(res:List Ru×PS)(f:Nat)(v:Value)(wr:World):Prop:=
 ∃(l:List Ru) (q:PS) (A:oD) (c:Nat),v=.slice A l.length c/\Hid (Bv yP 5 269 L g w f v wr l q (iK L f l q=res))
theorem Kz{L:List Tok}{f:Nat}{l:List Ru}{q:PS}{res:List Ru×PS}(h:iK L f l q=res)(h1:cM L (str "permit") q=false)(h2:cM L (str "deny") q=false):res=(l,q):=by
 cases f with
 |zero=>exact h.symm
 |succ f=>unfold iK at h;rw[iN (by rw[h1,h2];decide)] at h;exact h.symm
theorem Lb{L:List Tok}{f:Nat}{l:List Ru}{q:PS}{res:List Ru×PS}(h:iK L f l q=res)(c:0<f)(h1:(cM L (str "permit") q||cM L (str "deny") q)=true)(h2:(decide (l.length=16)||decide (q.aDR=64))=true):res=(l,cR L true q)/\(cR L true q).bad≠0:=by
 have b:(cR L true q).bad≠0:=by unfold cR;rw[iP rfl];exact mA 6 _ qe q
 obtain⟨a,rfl⟩:∃a,f=a+1:=⟨f - 1,qo⟩;unfold iK at h;rw[iP h1] at h;dsimp only at h;rw[h2,iP b] at h;exact⟨h.symm,b⟩
theorem Ld{L:List Tok}{f:Nat}{l:List Ru}{q:PS}{res:List Ru×PS}(h:iK L f l q=res)(b:0<f)(hq:q.bad=0)(h1:(cM L (str "permit") q||cM L (str "deny") q)=true)(h2:(decide (l.length=16)||decide (q.aDR=64))=false):
 ∃a,f=a+1/\iK L a (l++[(kW L (cM L (str "deny") q) {q with aDR:=q.aDR+1,at_:=q.at_+1}).1]) (kW L (cM L (str "deny") q) {q with aDR:=q.aDR+1,at_:=q.at_+1}).2=res:=by
 obtain⟨a,rfl⟩:∃a,f=a+1:=⟨f - 1,qo⟩;refine⟨a,rfl,?_⟩;unfold iK at h;exact QCq
theorem PW.aE3{L:List Tok}{w:World}{g:Nat}{p:PS}{v:Value}(h:PW L w g p)(a:v=.int .i64 ((p.aDR+1:Nat):Int)):PW L (w.setCell ⟨g,2,none⟩ v) g {p with aDR:=p.aDR+1}:=by
 subst a;refine h.stay (aI _) fun A c h=> ?_
 rw[aG h 2 _];rfl
theorem aA9:dZ prog 56 269 5 96:=fR (z:= .agg #[.string ByteArray.empty,.bool false,.slice none 0 0,.slice none 0 0,.slice none 0 0]) underlying56 (by kernel_rfl) rfl qe
theorem aM.stepG{α:Type}{R:Rep α}{s:Nat}{e:TypeId}{w wr:World}{v u:Value}{l:List α}{g i:Nat}(F:Firm R s)(h:aM R s e wr w.heap.size (fun b=>w.heap.size<=b) v l)(a:g<w.heap.size):aM R s e (wr.setCell ⟨g,i,none⟩ u) w.heap.size (fun b=>w.heap.size<=b) v l:=h.aD5 F (aI u) a
theorem sC.aD5{w w':World}{ok:nP}{r:Ru}{vt vc vo:Value}{g:Nat}(h:sC w ok r vt vc vo)(k:aN (fun b=>b≠g) w w')(a:¬ok g):sC w' ok r vt vc vo:=h.aDW (k.mono fun k _ c e=>a (e▸c))
theorem Rk{L:List Tok}{p:PS}(T:Toks L)(hp:p.at_<L.length)(hru:p.aDR<=64)(g:Nat)(w:World)(h:PW L w g p):
 Calls prog 137 #[.pointer (some ⟨g,0,none⟩)] w (iL yP L g w (iK L L.length [] p).1 (iK L L.length [] p).2):=by
 have O:=T.len;have hgl:=h.lt;have HP:=aA h;have K:=aA (fun (s:bY) (q:PS) (hq:q.at_<L.length) w h=>pA s hq O g w h);have HLM:=aA (fun b (q:PS) (hq:q.at_<L.length) w h=>lA b hq O g w h);have J:=aA (fun d (q:PS) (hq:q.at_<L.length) w h=>Rj T d hq g w h);obtain⟨res,S⟩:=xE (iK L L.length [] p);have HR0:Hid (iK L L.length [] p=res):=aA S.symm;rw[<-S];unfold iL;clear h S;have HK:=aA (cZ.refl w.heap.size g w);go_enter func137,ntmps137;go_wp2;go_loopg [3] L.length (fun f v wr=>aA8 L g w res f v wr)
 case atStart=>exact QBV
 case round=>
  clear HR0 HP HK;obtain⟨l,q,A,c,rfl,a⟩:=hrel;have hq:=a.o.at_;have aa:=a.o.aDR;have Z:=a.o.fuel;have hle:=a.o.len;have X:0<gk:=qo;have hlen:l.length<=5000:=qo;have m:=aA (K.o (str "permit") q hq);have o:=aA (K.o (str "deny") q hq);rw[JL] at m;rw[UB] at o;clear K;have t:=aA (fun h1 h2=>Kz a.o.res h1 h2);have n:=aA (fun h1 h2=>Lb a.o.res X h1 h2);have r:=aA (fun hb h1 h2=>Ld a.o.res X hb h1 h2);rw[JL,UB] at t n r;have z:=aA (fun h=>(lS (L:=L) (s:=⟨#[112,101,114,109,105,116]⟩) (p:=q) h));have B:=aA (fun h=>(lS (L:=L) (s:=⟨#[100,101,110,121]⟩) (p:=q) h));have U:Hid (cM L ⟨#[100,101,110,121]⟩ {q with aDR:=q.aDR+1}=cM L ⟨#[100,101,110,121]⟩ q):=aA rfl;have HI3:=aA (fun w h=>pA (p:={q with aDR:=q.aDR+1}) ⟨#[100,101,110,121]⟩ hq O g w h);rw[U.o] at HI3;obtain⟨Y,R⟩:=xE (cM L ⟨#[112,101,114,109,105,116]⟩ q);obtain⟨I,Q⟩:=xE (cM L ⟨#[100,101,110,121]⟩ q);have V:Hid (Y=true->cM L ⟨#[112,101,114,109,105,116]⟩ q=true):=aA (fun h=>R▸h);have W:Hid (I=true->cM L ⟨#[100,101,110,121]⟩ q=true):=aA (fun h=>Q▸h);rw[<-R] at m t n r;rw[<-Q] at o HI3 t n r;have z:=aA (fun h=>z.o (V.o h));have B:=aA (fun h=>B.o (W.o h));clear R Q U;have j1:(0:Int)<=q.aDR:=qo;have j2:(q.aDR:Int)<=64:=qo;have j3:(0:Int)<=q.at_:=qo;have j4:(q.at_:Int)<=5000:=qo
  cases Y
  .cases I
   .have HS:=aA (t.o rfl rfl);clear t n r z B;go_wp2_with fail;refine(m.o _ a.o.pw).mono ?_;rintro e w1 ⟨rfl,hb_⟩;obtain⟨HP1,HK1,HG1⟩:=aZ (a.o.pw.on hb_) (a.o.aDW.new hb_) (a.o.row.on bM hb_);clear hb_ m;go_wp2_with fail;refine(o.o _ HP1.o).mono ?_;rintro e w2 ⟨rfl,hb_⟩;obtain⟨HP2,HK2,HG2⟩:=aZ (HP1.o.on hb_) (HK1.o.new hb_) (HG1.o.on bM hb_);clear hb_ o;go_wp2;go_ret;refine⟨_,rfl,?_,?_,HK2.o.end⟩
    .rw[HS.o];exact HG2.o.sl qo _ (fun b hb _=>hb) (fun b hb _=>hb) bM
    .rw[HS.o];exact HP2.o
   .have M:=W.o rfl;by_cases h16:l.length=16
    .have i16:((l.length:Int)==16)=true:=bQ.2 qo;obtain⟨x,y⟩:=n.o qs (by rw[dX h16];simp);have HS:=aA x;have N:((cR L true q).bad != 0)=true:=bne_iff_ne.2 y;clear x y t n r z B;clear h16;go_wp2_with fail;refine(m.o _ a.o.pw).mono ?_;rintro e w0 ⟨rfl,hb_⟩;obtain⟨i,k,j⟩:=aZ (a.o.pw.on hb_) (a.o.aDW.new hb_) (a.o.row.on bM hb_);clear hb_ m;go_wp2_with fail;refine(o.o _ i.o).mono ?_;rintro e w1 ⟨rfl,hb_⟩;obtain⟨HP1,HK1,HG1⟩:=aZ (i.o.on hb_) (k.o.new hb_) (j.o.on bM hb_);clear hb_ o i k j;exact Uq
    .by_cases h64:q.aDR=64
     .have i16:((l.length:Int)==16)=false:=bN.2 qo;have i64:((q.aDR:Int)==64)=true:=bQ.2 qo;obtain⟨x,y⟩:=n.o qs (by rw[dX h64];simp);have HS:=aA x;have N:((cR L true q).bad != 0)=true:=bne_iff_ne.2 y;clear x y t n r z B;clear h16 h64;go_wp2_with fail;refine(m.o _ a.o.pw).mono ?_;rintro e w0 ⟨rfl,hb_⟩;obtain⟨i,k,j⟩:=aZ (a.o.pw.on hb_) (a.o.aDW.new hb_) (a.o.row.on bM hb_);clear hb_ m;go_wp2_with fail;refine(o.o _ i.o).mono ?_;rintro e w1 ⟨rfl,hb_⟩;obtain⟨HP1,HK1,HG1⟩:=aZ (i.o.on hb_) (k.o.new hb_) (j.o.on bM hb_);clear hb_ o i k j;exact Uq
     .have hqb:q.bad=0:=(B.o rfl).1;obtain⟨f',E,G⟩:=r.o hqb qs (by rw[dF h16,dF h64];rfl);have i16:((l.length:Int)==16)=false:=bN.2 qo;have i64:((q.aDR:Int)==64)=false:=bN.2 qo;have HF:=aA E;have F:dK L q {q with at_:=q.at_+1}:=fQ T (s:=(⟨#[100,101,110,121]⟩:bY)) hq M;have D:({q with aDR:=q.aDR+1,at_:=q.at_+1}:PS).at_<L.length:=F.lt;have C:=JI T true D;have hru3:=C.aEz (by show q.aDR+1<=64;omega);have P:=C.le;have hq2:=C.lt;have HS:=aA G;have HRX:=aA (J.o true _ D);have hlf:cR L false q=q:=by unfold cR;rw[iN qe]
      simp only at P D;clear E G t n r z B h16 h64 F C J;generalize kW L true {q with aDR:=q.aDR+1,at_:=q.at_+1}=r2 at *;go_wp2_with fail;refine(m.o _ a.o.pw).mono ?_;rintro e w0 ⟨rfl,hb_⟩;obtain⟨i,k,j⟩:=aZ (a.o.pw.on hb_) (a.o.aDW.new hb_) (a.o.row.on bM hb_);clear hb_ m;go_wp2_with fail;refine(o.o _ i.o).mono ?_;rintro e w1 ⟨rfl,hb_⟩;obtain⟨HP1,HK1,HG1⟩:=aZ (i.o.on hb_) (k.o.new hb_) (j.o.on bM hb_);clear hb_ o i k j;exact QAe
  .have M:=V.o rfl;by_cases h16:l.length=16
   .have i16:((l.length:Int)==16)=true:=bQ.2 qo;obtain⟨x,y⟩:=n.o qs (by rw[dX h16];simp);have HS:=aA x;have N:((cR L true q).bad != 0)=true:=bne_iff_ne.2 y;clear x y t n r z B;clear h16;go_wp2_with fail;refine(m.o _ a.o.pw).mono ?_;rintro e w0 ⟨rfl,hb_⟩;obtain⟨i,k,j⟩:=aZ (a.o.pw.on hb_) (a.o.aDW.new hb_) (a.o.row.on bM hb_);clear hb_ m;have HP1:=i;have HK1:=k;have HG1:=j;clear i k j o;obtain⟨w1,H⟩:=xE w0;subst H;exact Uq
   .by_cases h64:q.aDR=64
    .have i16:((l.length:Int)==16)=false:=bN.2 qo;have i64:((q.aDR:Int)==64)=true:=bQ.2 qo;obtain⟨x,y⟩:=n.o qs (by rw[dX h64];simp);have HS:=aA x;have N:((cR L true q).bad != 0)=true:=bne_iff_ne.2 y;clear x y t n r z B;clear h16 h64;go_wp2_with fail;refine(m.o _ a.o.pw).mono ?_;rintro e w0 ⟨rfl,hb_⟩;obtain⟨i,k,j⟩:=aZ (a.o.pw.on hb_) (a.o.aDW.new hb_) (a.o.row.on bM hb_);clear hb_ m;have HP1:=i;have HK1:=k;have HG1:=j;clear i k j o;obtain⟨w1,H⟩:=xE w0;subst H;exact Uq
    .have hqb:q.bad=0:=(z.o rfl).1;obtain⟨f',E,G⟩:=r.o hqb qs (by rw[dF h16,dF h64];rfl);have i16:((l.length:Int)==16)=false:=bN.2 qo;have i64:((q.aDR:Int)==64)=false:=bN.2 qo;have HF:=aA E;have F:dK L q {q with at_:=q.at_+1}:=fQ T (s:=(⟨#[112,101,114,109,105,116]⟩:bY)) hq M;have D:({q with aDR:=q.aDR+1,at_:=q.at_+1}:PS).at_<L.length:=F.lt;have C:=JI T I D;have hru3:=C.aEz (by show q.aDR+1<=64;omega);have P:=C.le;have hq2:=C.lt;have HS:=aA G;have HRX:=aA (J.o I _ D);have hlf:cR L false q=q:=by unfold cR;rw[iN qe]
     simp only at P D;clear E G t n r z B h16 h64 F C J;generalize kW L I {q with aDR:=q.aDR+1,at_:=q.at_+1}=r2 at *;go_wp2_with fail;refine(m.o _ a.o.pw).mono ?_;rintro e w0 ⟨rfl,hb_⟩;obtain⟨i,k,j⟩:=aZ (a.o.pw.on hb_) (a.o.aDW.new hb_) (a.o.row.on bM hb_);clear hb_ m;have HP1:=i;have HK1:=k;have HG1:=j;clear i k j o;obtain⟨w1,H⟩:=xE w0;subst H;exact QAe
end Go.Proofs.YthcgdgkpgdjahaaGreatDoor
