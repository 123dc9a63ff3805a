/- Lemmas. -/
import Derived.Test.YtkglnboglppgnaaGreatDoorMau
import Derived.Test.YtkglnboglppgnaaGreatDoorMay
namespace Go.Proofs.YtkglnboglppgnaaGreatDoor
open Go.RowKit
set_option linter.unusedVariables false
set_option linter.unusedSimpArgs false
set_option maxHeartbeats 16000000
open _root_.Go.Proofs.Tryz
set_option maxRecDepth 20000
theorem NH{s:Sto}{o:Op}(h:(s.aC5.length:Int)<o.aDq):iU s o=10:=by unfold iU;rw[iP h]
theorem RN{s:Sto}{o:Op}{n:Nat}(a:n<s.aC5.length)(h:o.aDq=(n:Int)+1):iU s o=if s.aC5[n].open_=false then 10 else if s.aC5[n].aDi=o.aDi then 12 else 0:=by
 unfold iU;rw[iN qo,show (o.aDq - 1).toNat=n by omega,gE a]
theorem NI{ok:nP}(s:Sto)(vc vr vn vo vt vu vk vb:Value)(o:Op)(K:0<o.aDq/\o.aDq<=9223372036854775807)(w:World)(h:fB w ok s vc vr vn vo vt vu vk vb):Calls prog 88 #[.agg (aX s vc vr vn vo vt vu vk vb),fI o] w (aP (.int .i64 (iU s o)) w):=by
 obtain⟨I,J,ra,rc,N,O,P,Q,R,S,T,U,L,M,G,H,rfl,_,rfl,_,rfl,_,rfl,_,rfl,_,rfl,_,rfl,_,rfl,_⟩:=h.sl;obtain⟨k,su,g,i,q,⟨v1,v2,v3⟩,a,t,p,j⟩:=o;dsimp only at K;unfold fI cC;dsimp only;obtain⟨W0,d⟩:=xE ((w.alloc (.cells (fV s I J ra rc N O P Q R S T U L M G H) 40)).alloc (.cells #[.int .i64 k,.string su,.string g,.string i,.string q,.int .i64 v1,.int .i64 v2,.string v3,.int .i64 a,.string t,.string p,.bool j] 66));have e:Hid (Below w.heap.size w W0):=aA (by rw[d];exact aC (aB _ _) (aB _ _));have A:Hid (W0.heap[w.heap.size]? =some (.cells (fV s I J ra rc N O P Q R S T U L M G H) 40 (0,0))):=aA (by rw[d];exact aF (aM _ _ _ rfl) (aB _ _));have B:Hid (W0.heap[w.heap.size+1]? =some (.cells #[.int .i64 k,.string su,.string g,.string i,.string q,.int .i64 v1,.int .i64 v2,.string v3,.int .i64 a,.string t,.string p,.bool j] 66 (0,0))):=aA (by rw[d];exact aM _ _ _ qs);have F:=aA d;have V:=aA (aI.on cR h.aC5 e.o);have y:=aA (fun (h:(s.aC5.length:Int)<a)=>(NH (s:=s) (o:=⟨k,su,g,i,q,(v1,v2,v3),a,t,p,j⟩) h));have f:=aA (fun n (m:n<s.aC5.length) (h:a=(n:Int)+1)=>(RN (s:=s) (o:=⟨k,su,g,i,q,(v1,v2,v3),a,t,p,j⟩) m h));dsimp only at f;unfold aP;unfold aX at *;obtain⟨⟨a0,a1,a2,a3,a4,a5,a6,a7,a8,a9,aa,ab,a12⟩,_⟩:=bK A.o;have za:=aE A.o;obtain⟨⟨b0,b1,b2,b3,b4,b5,b6,b7,b8,b9,ad,ae⟩,_⟩:=bS B.o;have zb:=aE B.o;clear h d;by_cases l:(s.aC5.length:Int)<a
 .have X:decide (a > (s.aC5.length:Int))=true:=dX l;have HE:=aA (y.o l);clear l y f;go_enter func88,ntmps88;exact Yp
 .obtain⟨n,m⟩:∃n:Nat,a=(n:Int)+1:=⟨(a - 1).toNat,qo⟩;have D:n<s.aC5.length:=qo;have HE:=aA (f.o n D m);subst m;have X:decide ((n:Int)+1 > (s.aC5.length:Int))=false:=dF qo;obtain⟨b,off,r,rfl,_,af,⟨rfl,Y⟩,C⟩:=aI.at cR V.o D qe;have Z:=C 2 _ rfl;have x6:=C 6 _ rfl;have ag:(n:Int)<(s.aC5.length:Int):=qo;clear l y f C Y K;generalize s.aC5[n]=x at *;clear D;obtain⟨y1,y2,E,y4,y5,y6,y7⟩:=x;dsimp only at Z x6 HE
  cases y7
  .go_enter func88,ntmps88;go_upto_region 1 with (fail)
   rw[<-F.o];go_wp2;go_returns;exact⟨by rw[HE.o];rfl,e.o⟩
  .go_enter func88,ntmps88;go_upto_region 1 with (fail)
   rw[<-F.o];by_cases c:E=su
   .have W:(E.toList==su.toList)=true:=by rw[jG];exact dX c
    have z:=aA c;clear c;go_wp2;go_quiet (fail)
    have v:=aA (fL e.o ⟨nq,rfl⟩);go_wp2;go_returns;exact⟨by rw[HE.o,iN qe,iP z.o];rfl,v.o⟩
   .have W:(E.toList==su.toList)=false:=by rw[jG];exact dF c
    have z:=aA c;clear c;go_wp2;go_quiet (fail)
    have v:=aA (fL e.o ⟨nq,rfl⟩);go_wp2;go_returns;exact⟨by rw[HE.o,iN qe,iN z.o];rfl,v.o⟩
theorem Dy{s:Sto}{o:Op}(h:gF o=false):eE s o=1:=by unfold eE;rw[iP h]
theorem Dz{s:Sto}{o:Op}(h:gF o=true):eE s o=if o.aC3=1 then (if (aY s o.aDa).2=true then 11 else if 64<=s.aC2.length then 6 else 0) else if o.aC3=2\/o.aC3=3\/o.aC3=4 then iJ s o else if o.aC3=5 then iU s o else if o.aC3=6 then (if 64<=s.aDd.length/\rT s o.aDa o.aDn=false then 6 else 0) else if o.aC3=8 then (if 1099511627776 - o.aDq<s.aDb then 6 else 0) else 0:=by unfold eE;rw[h,iN qe]
theorem KV{ok:nP}(s:Sto)(vc vr vn vo vt vu vk vb:Value)(o:Op)(G:kJ o)(w:World)(h:fB w ok s vc vr vn vo vt vu vk vb):Calls prog 43 #[.agg (aX s vc vr vn vo vt vu vk vb),fI o] w (aP (.int .i64 (eE s o)) w):=by
 obtain⟨ca,cc,ra,rc,na,nc,oa,oc,ta,tc,ua,uc,ka,kc,ba,bc,rfl,_,rfl,_,rfl,_,rfl,_,rfl,_,rfl,_,rfl,_,rfl,_⟩:=h.sl;have D:=aA (fun w=>UM o G w);have E:=aA (fun w2 (l:Below w.heap.size w w2)=>QZ s _ _ _ _ _ _ _ _ o G w2 (h.on l));have O:=aA (fun (S:0<o.aDq/\o.aDq<=9223372036854775807) w2 (l:Below w.heap.size w w2)=>NI s _ _ _ _ _ _ _ _ o S w2 (h.on l));have C:=aA (fun w2 (l:Below w.heap.size w w2)=>IY s _ _ _ _ _ _ _ _ o.aDa w2 (h.on l));have ad:=aA (fun w2 (l:Below w.heap.size w w2)=>IZ s _ _ _ _ _ _ _ _ o.aDa o.aDn w2 (h.on l));have m:=aA (fun (h:gF o=false)=>Dy (s:=s) h);have g:=aA (fun (h:gF o=true)=>Dz (s:=s) h);have M:=aA (fun (h:gF o=true) (Q:o.aC3=5)=>GI h Q);have N:=aA (fun (h:gF o=true) (Q:o.aC3=8)=>wL h Q);have af:bO o.aDq:=G.2.2.2.2.2.2.1;have aq:bO s.aDb:=h.aDb;obtain⟨k,su,i,j,q,⟨v1,v2,v3⟩,d,r,p,n⟩:=o;dsimp only at D E O C ad m g M N af ⊢;unfold bO at af aq;obtain⟨R,hR⟩:∃R,eE s ⟨k,su,i,j,q,(v1,v2,v3),d,r,p,n⟩=R:=⟨_,rfl⟩;obtain⟨F,hF⟩:∃F,gF ⟨k,su,i,j,q,(v1,v2,v3),d,r,p,n⟩=F:=⟨_,rfl⟩;obtain⟨FI,ae⟩:∃x,aY s i=x:=⟨_,rfl⟩;rw[hR] at m g ⊢;rw[hF] at D m g M N;rw[ae] at C g;generalize iJ s ⟨k,su,i,j,q,(v1,v2,v3),d,r,p,n⟩=P at *;generalize iU s ⟨k,su,i,j,q,(v1,v2,v3),d,r,p,n⟩=RL at *;generalize rT s i j=HA at *;obtain⟨ar,fb⟩:=FI;dsimp only at C g;unfold fI cC aX aP at *;obtain⟨W0,v⟩:=xE ((w.alloc (.cells (fV s ca cc ra rc na nc oa oc ta tc ua uc ka kc ba bc) 40)).alloc (.cells #[.int .i64 k,.string su,.string i,.string j,.string q,.int .i64 v1,.int .i64 v2,.string v3,.int .i64 d,.string r,.string p,.bool n] 66))
 have ag:Hid (Below w.heap.size w W0):=aA (by rw[v];exact aC (aB _ _) (aB _ _));have A:Hid (W0.heap[w.heap.size]? =some (.cells (fV s ca cc ra rc na nc oa oc ta tc ua uc ka kc ba bc) 40 (0,0))):=aA (by rw[v];exact aF (aM _ _ _ rfl) (aB _ _));have B:Hid (W0.heap[w.heap.size+1]? =some (.cells #[.int .i64 k,.string su,.string i,.string j,.string q,.int .i64 v1,.int .i64 v2,.string v3,.int .i64 d,.string r,.string p,.bool n] 66 (0,0))):=aA (by rw[v];exact aM _ _ _ qs);have aj:=aA v;obtain⟨⟨a0,a1,a2,a3,a4,a5,a6,a7,a8,a9,ak,al,a12⟩,_⟩:=bK A.o;have za:=aE A.o;obtain⟨⟨b0,b1,b2,b3,b4,b5,b6,b7,b8,b9,an,ao⟩,_⟩:=bS B.o;have zb:=aE B.o;clear h v hR hF ae G;go_enter func43,ntmps43;go_wp2_with fail;rw[<-aj.o];refine(D.o _).mono ?_;rintro e w1 ⟨rfl,a⟩;have HB1:=qB ag a;clear a0 a1 a2 a3 a4 a5 a6 a7 a8 a9 ak al a12 za b0 b1 b2 b3 b4 b5 b6 b7 b8 b9 an ao zb D;replace A:=qK A a;obtain⟨⟨T,U,Y,Z,A4,A5,A6,A7,A8,A9,V,W,X⟩,_⟩:=bK A.o;have zA:=aE A.o;replace B:=qK B a;obtain⟨⟨B0,B1,B2,B3,B4,B5,B6,B7,B8,B9,aa,ab⟩,_⟩:=bS B.o;have zB:=aE B.o;clear a
 cases F
 .have HE:=aA (m.o rfl);clear m g;exact Ig
 have b:=aA (g.o rfl);clear m g;by_cases H:k=1
 .subst H;have HE:Hid (R=if fb=true then 11 else if 64<=s.aC2.length then 6 else 0):=aA (by rw[b.o];rfl);clear b;go_wp2_with fail;refine(C.o _ HB1.o).mono ?_;rintro e w2 ⟨rfl,a⟩;have HB2:=qB HB1 a
  try clear T U Y Z A4 A5 A6 A7 A8 A9 V W X zA
  replace A:=qK A a;obtain⟨⟨T,U,Y,Z,A4,A5,A6,A7,A8,A9,V,W,X⟩,_⟩:=bK A.o;have zA:=aE A.o
  try clear B0 B1 B2 B3 B4 B5 B6 B7 B8 B9 aa ab zB
  replace B:=qK B a;obtain⟨⟨B0,B1,B2,B3,B4,B5,B6,B7,B8,B9,aa,ab⟩,_⟩:=bS B.o;have zB:=aE B.o;clear a
  cases fb
  .by_cases c:64<=s.aC2.length
   .have t:decide ((s.aC2.length:Int) ≥ 64)=true:=dX qo;have f:=aA c;clear c;go_wp2;go_returns;exact⟨by rw[HE.o,iN qe,iP f.o];rfl,HB2.o⟩
   .have t:decide ((s.aC2.length:Int) ≥ 64)=false:=dF qo;have f:=aA c;clear c;go_wp2;go_returns;exact⟨by rw[HE.o,iN qe,iN f.o];rfl,HB2.o⟩
  .exact GF
 have d1:(k==1)=false:=bN.2 H;by_cases I:k=2
 .subst I;have HE:Hid (R=P):=aA (by rw[b.o];rfl);clear b;go_wp2_with fail;refine(E.o _ HB1.o).mono ?_;rintro e w2 ⟨rfl,a⟩;have HB2:=qB HB1 a;clear a;exact GF
 have d2:(k==2)=false:=bN.2 I;by_cases J:k=3
 .subst J;have HE:Hid (R=P):=aA (by rw[b.o];rfl);clear b;go_wp2_with fail;refine(E.o _ HB1.o).mono ?_;rintro e w2 ⟨rfl,a⟩;have HB2:=qB HB1 a;clear a;exact GF
 have d3:(k==3)=false:=bN.2 J;by_cases K:k=4
 .subst K;have HE:Hid (R=P):=aA (by rw[b.o];rfl);clear b;go_wp2_with fail;refine(E.o _ HB1.o).mono ?_;rintro e w2 ⟨rfl,a⟩;have HB2:=qB HB1 a;clear a;exact GF
 have d4:(k==4)=false:=bN.2 K;by_cases y:k=5
 .have S:=M.o rfl y;subst y;have HE:Hid (R=RL):=aA (by rw[b.o];rfl);have ai:=aA (O.o ⟨S,qo⟩ _ HB1.o);clear b O;go_wp2_with fail;refine ai.o.mono ?_;rintro e w2 ⟨rfl,a⟩;have HB2:=qB HB1 a;clear a;exact GF
 have d5:(k==5)=false:=bN.2 y;by_cases L:k=6
 .subst L;have HE:Hid (R=if 64<=s.aDd.length/\HA=false then 6 else 0):=aA (by rw[b.o];rfl);clear b;by_cases c:64<=s.aDd.length
  .have t:decide ((s.aDd.length:Int) ≥ 64)=true:=dX qo;have f:=aA c;clear c;go_wp2_with fail;refine(ad.o _ HB1.o).mono ?_;rintro e w2 ⟨rfl,a⟩;have HB2:=qB HB1 a;clear a
   cases HA
   .go_wp2;go_returns;exact⟨by rw[HE.o,iP ⟨f.o,by trivial⟩];rfl,HB2.o⟩
   .go_wp2;go_returns;exact⟨by rw[HE.o,iN (fun h=>absurd h.2 qe)];rfl,HB2.o⟩
  .have t:decide ((s.aDd.length:Int) ≥ 64)=false:=dF qo;have f:=aA c;clear c;go_wp2;go_returns;exact⟨by rw[HE.o,iN (fun h=>f.o h.1)];rfl,HB1.o⟩
 have d6:(k==6)=false:=bN.2 L;by_cases z:k=8
 .obtain⟨au,av⟩:=N.o rfl z;subst z;have HE:Hid (R=if 1099511627776 - d<s.aDb then 6 else 0):=aA (by rw[b.o];rfl);clear b;by_cases c:1099511627776 - d<s.aDb
  .have t:decide (s.aDb > 1099511627776 - d)=true:=dX c;have f:=aA c;clear c;go_wp2;go_returns;exact⟨by rw[HE.o,iP f.o];rfl,HB1.o⟩
  .have t:decide (s.aDb > 1099511627776 - d)=false:=dF c;have ah:Hid (R=0):=aA (by rw[HE.o,iN c]);clear c HE;go_wp2;go_returns;exact⟨by rw[ah.o];rfl,HB1.o⟩
 have d8:(k==8)=false:=bN.2 z;have HE:Hid (R=0):=aA (by rw[b.o,iN H,iN (fun h=>h.elim I (fun h=>h.elim J K)),iN y,iN L,iN z]);clear b H I J K y L z;exact Ig
theorem QDg{p:Prop}(h:p:=by
 exact(((((HP.o.set qo).set qo).set qo).set qo).set qo)):p:=h
theorem QCV{p:Prop}(h:p:=by
 exact dD.end ((((((HK.o.set qo).set qo).set qo).set qo).set qo))):p:=h
theorem QBl{p:Prop}(h:p:=by
 exact aI.more aQ (aI.set aQ (aI.set aQ (aI.set aQ (aI.set aQ (aI.set aQ (HSo.o) qh) qh) qh) qh) qh) (fun b hb=>by have:=hb.1;show w.heap.size<=b;omega)):p:=h
theorem QBi{p:Prop}(h:p:=by
 exact aI.more aT (aI.set aT (aI.set aT (aI.set aT (aI.set aT (aI.set aT (HSt.o) qh) qh) qh) qh) qh) (fun b hb=>by have:=hb.1;show w.heap.size<=b;omega)):p:=h
theorem aI.set{α:Type}{R:Rep α}{s:Nat}(F:Firm R s){w:World}{ok:nP}{v u:Value}{l:List α}{b i:Nat}(h:aI R w ok v l)(a:¬ok b):aI R (w.setCell ⟨b,i,none⟩ u) ok v l:=
 h.aDc F ((aJ u).mono fun k _ c e=>a (e▸c))
theorem aI.new{α:Type}{R:Rep α}{s:Nat}(F:Firm R s){w:World}{ok:nP}{v:Value}{l:List α}{o:Obj}(h:aI R w ok v l):aI R (w.alloc o) ok v l:=h.on F (aB w o)
theorem aI.aDk{α:Type}{R:Rep α}{s:Nat}(F:Firm R s){w w':World}{ok:nP}{v:Value}{l:List α}{g:Nat}(h:aI R w ok v l)(k:aO (fun b=>b≠g) w w')(a:¬ok g):aI R w' ok v l:=
 h.aDc F (k.mono fun k _ c e=>a (e▸c))
def yX(L:List Tok)(g:Nat)(w:World)(r:Ru)(p':PS)(e:Ending)(w':World):Prop:=
 ∃vt vc vo,e=.returned (.agg #[.string r.id,.bool r.aDE,vt,vc,vo])/\rO w' (fun b=>w.heap.size<=b) r vt vc vo/\PW L w' g p'/\aO (fun b=>b≠g) w w'
abbrev zRu:Array Value:=#[.string ⟨#[]⟩,.bool false,.slice none 0 0,.slice none 0 0,.slice none 0 0]
theorem Vr{L:List Tok}{p:PS}(T:Toks L)(deny:Bool)(hp:p.at_<L.length)(g:Nat)(w:World)(h:PW L w g p)(D:cO L (str "if") (bW L (bV L p).2).2=true):
 Calls prog 184 #[.pointer (some ⟨g,0,none⟩),.bool deny] w (yX L g w (kP L deny p).1 (kP L deny p).2):=by
 have hL:=T.len;have ah:=h.lt;have HP:=aA h;have m1:=jF T hp;have m2:=lS T m1.lt;have M:=aA (fun w h=>rC T hp g w h);have I:=aA (fun w h=>tN T m1.lt g w h);have C:=aA (fun w h=>eO T (str "if") m2.lt g w h);have V:=aA (rG T hp);have m3:=fR T m2.lt D;have m4:=FT T [] false m3.lt;have J:=DK T L.length [] false m3.lt;have Y:Hid ((jD L [] false {(bW L (bV L p).2).2 with at_:=(bW L (bV L p).2).2.at_+1}).1.length<=100000):=aA (by
  have O:=m4.lt;have hy:(jD L [] false {(bW L (bV L p).2).2 with at_:=(bW L (bV L p).2).2.at_+1})=iG L L.length [] false {(bW L (bV L p).2).2 with at_:=(bW L (bV L p).2).2.at_+1}:=rfl;rw[hy] at O ⊢;simp only[List.length_nil] at J;dsimp only at J O ⊢;omega)
 have H:=aA (fun B v w h=>KL T (AH T L.length) [] false {(bW L (bV L p).2).2 with at_:=(bW L (bV L p).2).2.at_+1} g B v w h);have W:=aA m3.lt;have N:kP L deny p=(⟨(bV L p).1,deny,(bW L (bV L p).2).1,(jD L [] false {(bW L (bV L p).2).2 with at_:=(bW L (bV L p).2).2.at_+1}).1,(gO L (jD L [] false {(bW L (bV L p).2).2 with at_:=(bW L (bV L p).2).2.at_+1}).2).1⟩,eI L (str ";") (gO L (jD L [] false {(bW L (bV L p).2).2 with at_:=(bW L (bV L p).2).2.at_+1}).2).2):=by
  unfold kP;dsimp only;rw[iP D]
 rw[mI D] at C;have F:=aA (fun w h=>vB T m4.lt g w h);have m5:=uY T m4.lt;have G:=aA (fun w h=>mH T (str ";") m5.lt g w h);rw[N];unfold yX;unfold iM at I F;clear h m1 m2 m3 J m4 m5 N D;generalize bV L p=K at *;generalize bW L K.2=j at *;have X:Hid (jD L [] false {j.2 with at_:=j.2.at_+1}=iG L L.length [] false {j.2 with at_:=j.2.at_+1}):=aA rfl;rw[<-X.o] at H;generalize jD L [] false {j.2 with at_:=j.2.at_+1}=P at *;generalize gO L P.2=Q at *;generalize eI L (str ";") Q.2=r5 at *;rw[Hf] at G;rw[Xr] at C;dsimp only;go_enter func184,ntmps184;have HK:=aA (dD.refl w.heap.size g w);go_wp2_with fail;refine(M.o _ (HP.o.alloc)).mono ?_;rintro e w1 ⟨rfl,d,a⟩;obtain⟨c,HK,HP⟩:=bA (aG (aM _ _ _ qs) a qo:w1.heap[w.heap.size]? =some (.cells zRu 269 (0,0))) (HK.o.alloc.aDk a) d;clear d a;have ak:=aE c.o;have ay:=HP.o.lt;clear M;go_wp2_with fail;refine(I.o _ HP.o).mono ?_;rintro e w2 ⟨vt,rfl,i,d,a⟩;obtain⟨R,S,rfl,aj⟩:=i.slice;obtain⟨c,HK,HP⟩:=bA (aG (c.o) a qo) (HK.o.aDk a) d;clear d a;have al:=aE c.o;have az:=HP.o.lt;have HSt:=aA (aI.more aT (aI.inb aT i) (ok':=fun b=>w.heap.size<b/\b≠w2.heap.size) (fun b hb=>⟨by have:w1.heap.size<=b:=hb.1;show w.heap.size<b;omega,by have:=hb.2;show b≠w2.heap.size;omega⟩));clear i I;go_wp2_with fail;refine(C.o _ (HP.o.alloc)).mono ?_;rintro e l ⟨rfl,d,a⟩;obtain⟨c,f,HK,HP⟩:=dJ (aG (aF (c.o) (aB _ _)) a qo) (aG (aM _ _ _ qs) a qo:l.heap[w2.heap.size]? =some (.cells #[.string K.1,.bool deny,.slice R j.1.length S,.slice none 0 0,.slice none 0 0] 269 (0,0))) (HK.o.alloc.aDk a) d
 have HSt:=aA (aI.aDk aT (aI.new aT (HSt.o)) a qh);clear d a;have an:=aE c.o;have au:=aE f.o;have a1:=HP.o.lt;clear C;obtain⟨⟨m,n,o,q,r⟩,s,t,x,y,z⟩:=dO f.o;go_wp2_with fail;refine(H.o l.heap.size (.slice none 0 0) l ⟨by show L.length<=L.length+(j.2.at_+1);omega,W.o,qs,HP.o.lt,lR _,HP.o,aN.nil⟩).mono ?_;rintro e U ⟨vc,rfl,E⟩;have a:aO (fun b=>b≠g) l U:=aO.mono E.fr (fun k _ h=>⟨h,by simp[Value.ownBlock]⟩);have d:=E.pw;have i:=aN.sl E.row (qA Y.o) (fun b=>l.heap.size<=b) (fun b hb _=>hb.elim) (fun b hb _=>hb) dR;obtain⟨Z,cc,rfl,ag⟩:=i.slice;obtain⟨c,f,HK,HP⟩:=dJ (aG (c.o) a qo) (aG (f.o) a qo) (HK.o.aDk a) d;have HSt:=aA (aI.aDk aT (HSt.o) a qh);clear d a m n o q r s t x y z;have ao:=aE c.o;have av:=aE f.o;have a6:=HP.o.lt;have A:=aA (aI.more dR (aI.inb dR i) (ok':=fun b=>w.heap.size<b/\b≠w2.heap.size) (fun b hb=>⟨by have:l.heap.size<=b:=hb.1;show w.heap.size<b;omega,by have:l.heap.size<=b:=hb.1;show b≠w2.heap.size;omega⟩));clear i E H;obtain⟨⟨m,n,o,q,r⟩,s,t,x,y,z⟩:=dO f.o;go_wp2_with fail;refine(F.o _ ((HP.o.set qo))).mono ?_;rintro e w5 ⟨vo,rfl,i,d,a⟩;obtain⟨oa,oc,rfl,ai⟩:=i.slice;obtain⟨c,f,HK,HP⟩:=dJ (aG (bG (c.o) qo) a qo) (aG (aAg (f.o) _) a qo) ((HK.o.set qo).aDk a) d;have HSt:=aA (aI.aDk aT (aI.set aT (HSt.o) qh) a qh);have A:=aA (aI.aDk dR (aI.set dR (A.o) qh) a qh)
 clear d a m n o q r s t x y z;have aq:=aE c.o;have aw:=aE f.o;have a7:=HP.o.lt;have HSo:=aA (aI.more aQ (aI.inb aQ i) (ok':=fun b=>w.heap.size<b/\b≠w2.heap.size) (fun b hb=>by have h1:=hb.1;(try simp only[World.setCell,Array.size_modify] at h1);have h3:U.heap.size<=b:=h1;exact⟨by show w.heap.size<b;omega,by show b≠w2.heap.size;omega⟩));clear i F;obtain⟨⟨m,n,o,q,r⟩,s,t,x,y,z⟩:=dO f.o;go_wp2_with fail;refine(G.o _ ((HP.o.set qo))).mono ?_;rintro e w6 ⟨rfl,d,a⟩;obtain⟨c,f,HK,HP⟩:=dJ (aG (bG (c.o) qo) a qo) (aG (Sc (f.o) _) a qo) ((HK.o.set qo).aDk a) d;have HSt:=aA (aI.aDk aT (aI.set aT (HSt.o) qh) a qh);have A:=aA (aI.aDk dR (aI.set dR (A.o) qh) a qh);have HSo:=aA (aI.aDk aQ (aI.set aQ (HSo.o) qh) a qh);clear d a m n o q r s t x y z;have ar:=aE c.o;have ax:=aE f.o;have a8:=HP.o.lt;clear G;obtain⟨⟨m,n,o,q,r⟩,s,t,x,y,z⟩:=dO f.o;obtain⟨⟨R0,R1,R2,R3,R4⟩,aa,ab,ad,ae,af⟩:=dO c.o;go_wp2;refine bR (.agg #[.string K.1,.bool deny,.slice R j.1.length S,.slice Z P.1.length cc,.slice oa Q.1.length oc]) ?_;refine⟨_,_,_,rfl,⟨lT V.o (by unfold cV;omega),?_,?_,?_⟩,?_,?_⟩
 .exact QBi
 .exact aI.more dR (aI.set dR (aI.set dR (aI.set dR (aI.set dR (aI.set dR (A.o) qh) qh) qh) qh) qh) (fun b hb=>by have:=hb.1;show w.heap.size<=b;omega)
 .exact QBl
 .exact QDg
 .exact QCV
theorem Vs{L:List Tok}{p:PS}(T:Toks L)(deny:Bool)(hp:p.at_<L.length)(g:Nat)(w:World)(h:PW L w g p)(A:cO L (str "if") (bW L (bV L p).2).2=false):
 Calls prog 184 #[.pointer (some ⟨g,0,none⟩),.bool deny] w (yX L g w (kP L deny p).1 (kP L deny p).2):=by
 have Y:=T.len;have Z:=h.lt;have HP:=aA h;have m1:=jF T hp;have m2:=lS T m1.lt;have D:=aA (fun w h=>rC T hp g w h);have z:=aA (fun w h=>tN T m1.lt g w h);have j:=aA (fun w h=>eO T (str "if") m2.lt g w h);have J:=aA (rG T hp);have m4:=dM.refl m2.lt;have E:kP L deny p=(⟨(bV L p).1,deny,(bW L (bV L p).2).1,[],(gO L (bW L (bV L p).2).2).1⟩,eI L (str ";") (gO L (bW L (bV L p).2).2).2):=by
  unfold kP;dsimp only;rw[iN (by rw[A];decide)]
 rw[kA A] at j;have x:=aA (fun w h=>vB T m4.lt g w h);have m5:=uY T m4.lt;have y:=aA (fun w h=>mH T (str ";") m5.lt g w h);rw[E];unfold yX;unfold iM at z x;clear h m1 m2 m4 m5 E A;generalize bV L p=B at *;generalize bW L B.2=C at *;generalize gO L C.2=F at *;generalize eI L (str ";") F.2=r5 at *;rw[Hf] at y;rw[Xr] at j;dsimp only;go_enter func184,ntmps184;have HK:=aA (dD.refl w.heap.size g w);go_wp2_with fail;refine(D.o _ (HP.o.alloc)).mono ?_;rintro e w1 ⟨rfl,d,a⟩;obtain⟨c,HK,HP⟩:=bA (aG (aM _ _ _ qs) a qo:w1.heap[w.heap.size]? =some (.cells zRu 269 (0,0))) (HK.o.alloc.aDk a) d;clear d a;have ad:=aE c.o;have al:=HP.o.lt;clear D;go_wp2_with fail;refine(z.o _ HP.o).mono ?_;rintro e w2 ⟨vt,rfl,i,d,a⟩;obtain⟨G,H,rfl,ab⟩:=i.slice;obtain⟨c,HK,HP⟩:=bA (aG (c.o) a qo) (HK.o.aDk a) d;clear d a;have ae:=aE c.o;have an:=HP.o.lt;have HSt:=aA (aI.more aT (aI.inb aT i) (ok':=fun b=>w.heap.size<b/\b≠w2.heap.size) (fun b hb=>⟨by have:w1.heap.size<=b:=hb.1;show w.heap.size<b;omega,by have:=hb.2;show b≠w2.heap.size;omega⟩));clear i z;go_wp2_with fail;refine(j.o _ (HP.o.alloc)).mono ?_;rintro e I ⟨rfl,d,a⟩;obtain⟨c,f,HK,HP⟩:=dJ (aG (aF (c.o) (aB _ _)) a qo) (aG (aM _ _ _ qs) a qo:I.heap[w2.heap.size]? =some (.cells #[.string B.1,.bool deny,.slice G C.1.length H,.slice none 0 0,.slice none 0 0] 269 (0,0))) (HK.o.alloc.aDk a) d;have HSt:=aA (aI.aDk aT (aI.new aT (HSt.o)) a qh);clear d a;have af:=aE c.o;have ai:=aE f.o;have ao:=HP.o.lt;clear j;obtain⟨⟨k,l,m,n,o⟩,q,r,s,t,v⟩:=dO f.o
 go_wp2_with fail;refine(x.o _ (HP.o)).mono ?_;rintro e w4 ⟨vo,rfl,i,d,a⟩;obtain⟨K,M,rfl,aa⟩:=i.slice;obtain⟨c,f,HK,HP⟩:=dJ (aG (c.o) a qo) (aG (f.o) a qo) (HK.o.aDk a) d;have HSt:=aA (aI.aDk aT (HSt.o) a qh);clear d a k l m n o q r s t v;have ag:=aE c.o;have aj:=aE f.o;have aq:=HP.o.lt;have HSo:=aA (aI.more aQ (aI.inb aQ i) (ok':=fun b=>w.heap.size<b/\b≠w2.heap.size) (fun b hb=>by have h1:=hb.1;(try simp only[World.setCell,Array.size_modify] at h1);have h3:I.heap.size<=b:=h1;exact⟨by show w.heap.size<b;omega,by show b≠w2.heap.size;omega⟩));clear i x;obtain⟨⟨k,l,m,n,o⟩,q,r,s,t,v⟩:=dO f.o;go_wp2_with fail;refine(y.o _ ((HP.o.set qo))).mono ?_;rintro e w5 ⟨rfl,d,a⟩;obtain⟨c,f,HK,HP⟩:=dJ (aG (bG (c.o) qo) a qo) (aG (Sc (f.o) _) a qo) ((HK.o.set qo).aDk a) d;have HSt:=aA (aI.aDk aT (aI.set aT (HSt.o) qh) a qh);have HSo:=aA (aI.aDk aQ (aI.set aQ (HSo.o) qh) a qh);clear d a k l m n o q r s t v;have ah:=aE c.o;have ak:=aE f.o;have ar:=HP.o.lt;clear y;obtain⟨⟨k,l,m,n,o⟩,q,r,s,t,v⟩:=dO f.o;obtain⟨⟨N,O,P,Q,R⟩,S,U,V,W,X⟩:=dO c.o;go_wp2;refine bR (.agg #[.string B.1,.bool deny,.slice G C.1.length H,.slice none 0 0,.slice K F.1.length M]) ?_;refine⟨_,_,_,rfl,⟨lT J.o (by unfold cV;omega),?_,?_,?_⟩,?_,?_⟩
 .exact QBi
 .exact aI.nil
 .exact QBl
 .exact QDg
 .exact QCV
theorem Pt{L:List Tok}{p:PS}(T:Toks L)(deny:Bool)(hp:p.at_<L.length)(g:Nat)(w:World)(h:PW L w g p):
 Calls prog 184 #[.pointer (some ⟨g,0,none⟩),.bool deny] w (yX L g w (kP L deny p).1 (kP L deny p).2):=by
 cases a:cO L (str "if") (bW L (bV L p).2).2
 .exact Vs T deny hp g w h a
 .exact Vr T deny hp g w h a
end Go.Proofs.YtkglnboglppgnaaGreatDoor
