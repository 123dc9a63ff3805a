/- Lemmas. -/
import Derived.Test.YtbinmcabjnoliaaGreatDoorMag
import Derived.Test.YtbinmcabjnoliaaGreatDoorMaf
import Derived.Lib.AppendZerosOnto
namespace Go.Proofs.YtbinmcabjnoliaaGreatDoor
open Go.RowKit
set_option linter.unusedVariables false
set_option linter.unusedSimpArgs false
set_option maxHeartbeats 16000000
open _root_.Go.Proofs.Tryz
set_option maxRecDepth 20000
theorem Gu(s:Sto)(o:Op)(what:bY):(lV s o what).aCZ=s.aCZ:=by unfold lV;dsimp only;split<;>rfl
theorem CN(o:Op)(d:Bool)(s:Sto)(x:Ob):(cZ o d s x).aCZ=s.aCZ:=by
 unfold cZ;split
 .exact Gu _ _ _
 .split
  .rfl
  .split<;>rfl
theorem xT(o:Op)(d:Bool):∀(l:List Ob) (s:Sto),(l.foldl (cZ o d) s).aCZ=s.aCZ
 | [],_=>rfl
 |x::l,s=>(xT o d l _).trans (CN o d s x)
theorem Gw(s:Sto)(o:Op):(dI s o).aCZ=if dR s o=0/\o.aCR=8 then s.aCZ+o.aDd else s.aCZ:=by
 unfold dI;by_cases h0:dR s o=0
 .rw[iN (fun h=>h h0)];dsimp only;by_cases h1:o.aCR=1
  .rw[iP h1,iN qo]
  rw[iN h1];by_cases h3:o.aCR=3
  .rw[iP h3,iN qo];rfl
  rw[iN h3];by_cases h4:o.aCR=4
  .rw[iP h4,iN qo];rfl
  rw[iN h4];by_cases h5:o.aCR=5
  .rw[iP h5,iN qo]
  rw[iN h5];by_cases h6:o.aCR=6
  .rw[iP h6,iN (fun h:dR s o=0/\o.aCR=8=>qA h.2)];split<;>rfl
  rw[iN h6];by_cases h7:o.aCR=7
  .rw[iP h7,iN (fun h:dR s o=0/\o.aCR=8=>qA h.2)];split<;>rfl
  rw[iN h7];by_cases h8:o.aCR=8
  .rw[iP h8,iP ⟨h0,h8⟩]
  rw[iN h8,iN (fun h=>h8 h.2)]
 .rw[iP h0,iN (fun h=>h0 h.1)]
inductive wW (s:Sto) (o:Op):Sto×Rpl×Option Deci×Int->Prop where
 |none (r:Rpl) (e:Int) (he:e≠0) (hr:r.err=e) (hg:r.aDk=false):wW s o (s,r,Option.none,e)
 |some (m:Mk) (l:List Ob) (glass hidden:Bool) (v:V3) (hready:dR s o=0) (hpol:o.aCR=7->(fD o.text).2.1=0)
   (hidx:iF (pU s o) s.aCS=((m,l),0)) (hgl:glass=kU s o m)
   (hov:qL (l.foldl (cZ o (decide (m=(4,0))||glass)) (if (decide (m=(4,0))||glass)=true then dI (if glass=true then gB s o o.aDf else s) o else (if glass=true then gB s o o.aDf else s)))=false)
   (hhid:hidden=((decide (m=(4,0))||glass)&&(decide (o.aCR=2)&&l.any (fun x=>decide (x.aCR=2)&&decide (x.arg=o.aDc)))))
   (hval:v=if ((decide (m=(4,0))||glass)&&(decide (o.aCR=2)&& !hidden))=true then ((eF s o.aCX).map (fun c=>gI c o.aDc)).getD bD else bD):
   wW s o (l.foldl (cZ o (decide (m=(4,0))||glass)) (if (decide (m=(4,0))||glass)=true then dI (if glass=true then gB s o o.aDf else s) o else (if glass=true then gB s o o.aDf else s)),
    ⟨if (decide (m=(4,0))||glass)=true then 0 else 12,m,glass,v,hidden,0⟩,Option.some ⟨o,s.aC2,m,glass,l⟩,0)
def Rw(s:Sto)(o:Op)(place:Int):Sto×Rpl×Option Deci×Int:=
 let (r,e2):=iF (pU s o) s.aCS
 if e2≠0 then (s,{qM with err:=e2,at_:=place},none,e2)
 else
  let glass:=kU s o r.1
  let done:=decide (r.1=(4,0))||glass
  let a:=if glass then gB s o o.aDf else s
  let d:=if done then dI a o else a
  let hidden:=done&&(decide (o.aCR=2)&&r.2.any (fun x=>decide (x.aCR=2)&&decide (x.arg=o.aDc)))
  let val:=if done&&(decide (o.aCR=2)&& !hidden) then ((eF s o.aCX).map (fun c=>gI c o.aDc)).getD bD else bD
  let b:=r.2.foldl (cZ o done) d
  if qL b then (s,{qM with err:=6,at_:=place},none,6)
  else (b,⟨if done then 0 else 12,r.1,glass,val,hidden,0⟩,some ⟨o,s.aC2,r.1,glass,r.2⟩,0)
def vW(s:Sto)(o:Op):Int×Int:=if dR s o=0/\o.aCR=7 then (fD o.text).2 else (dR s o,0)
theorem SX(s:Sto)(o:Op):cY s o=if (vW s o).1≠0 then (s,{qM with err:=(vW s o).1,at_:=(vW s o).2},none,(vW s o).1) else Rw s o (vW s o).2:=rfl
theorem ZM{s:Sto}{o:Op}(place:Int)(h0:dR s o=0)(hp:o.aCR=7->(fD o.text).2.1=0):wW s o (Rw s o place):=by
 unfold Rw
 rcases c:iF (pU s o) s.aCS with ⟨⟨m,l⟩,b⟩
 dsimp only;by_cases he:b=0
 .subst he;rw[iN (fun h=>h rfl)];by_cases a:qL (l.foldl (cZ o (decide (m=(4,0))||kU s o m)) (if (decide (m=(4,0))||kU s o m)=true then dI (if kU s o m=true then gB s o o.aDf else s) o else (if kU s o m=true then gB s o o.aDf else s)))=true
  .rw[iP a];exact wW.none _ _ qe rfl rfl
  .rw[iN a];exact wW.some m l _ _ _ h0 hp c rfl (by simpa using a) rfl rfl
 .rw[iP he];exact wW.none _ _ he rfl rfl
theorem nK(s:Sto)(o:Op):wW s o (cY s o):=by
 rw[SX];by_cases he:(vW s o).1=0
 .rw[iN (fun h=>h he)];unfold vW at he;by_cases a:dR s o=0/\o.aCR=7
  .rw[iP a] at he;exact ZM _ a.1 (fun _=>he)
  .rw[iN a] at he;exact ZM _ he (fun h=>absurd ⟨he,h⟩ a)
 .rw[iP he];exact wW.none _ _ he rfl rfl
theorem lI{s:Sto}{o:Op}(h:dR s o=0):gP o=true:=by
 unfold dR at h;by_cases a:gP o=false
 .rw[iP a] at h;exact absurd h qe
 .simpa using a
theorem uM(g:Bool)(s:Sto)(o:Op)(r:bY):(if g=true then gB s o r else s).aCZ=s.aCZ:=by split<;>rfl
abbrev rE(o:Op):Array Value:=#[.int .i64 o.aCR,.string o.aC6,.string o.aCX,.string o.aDc,.string o.to_,.int .i64 o.val.1,.int .i64 o.val.2.1,.string o.val.2.2,.int .i64 o.aDd,.string o.text,.string o.aDf,.bool o.aDk]
section
open Pv
def CP(n:Nat)(w:World)(e:Ending)(w':World):Prop:=∃(l:lU) (A:oD) (c:Nat),e=.returned (.slice A l.length c)/\l.length<=n/\Sl w' w'.heap.size A (bF l)/\w'.ownsRow w.heap.size 5 1 (.slice A l.length c) l.length (bF l)/\Below w.heap.size w w'
theorem ET{w:World}{l:lU}{n:Nat}{e:Ending}{w':World}(h:oM w l e w')(a:l.length<=n):CP n w e w':=by
 obtain⟨A,c,h1,h2,h3,h4⟩:=qC h;exact⟨l,A,c,h1,a,h2,h3,h4⟩
theorem SY(a:oD)(c:Nat)(k:Int)(b:bK k)(l:lU)(w:World)(f:l.length<=1000000)(d:Sl w w.heap.size a (bF l)):Calls prog 127 #[.slice a l.length c,.int .i64 k] w (CP (l.length+10) w):=
 (ED a c l.length k l rfl w b.1 b.2 qo d).mono fun e w' h=>ET h (by rw[aL];have:=sN k b.1 b.2;omega)
theorem SZ(s:bY)(h:s.size<=1000000):(uU s.data.toList).length<=10+s.size:=by
 have a:s.data.toList.length=s.size:=by rw[Array.length_toList];rfl
 unfold uU;rw[aL,a];have:=sN (s.size:Int) qo qo;omega
theorem CQ(a:oD)(c:Nat)(s:bY)(m:Nat)(f:s.size<=m)(hm:m<=1000000)(l:lU)(w:World)(d:l.length<=1000000)(b:Sl w w.heap.size a (bF l)):Calls prog 128 #[.slice a l.length c,.string s] w (CP (l.length+10+m) w):=
 (SC a c l.length s l rfl w qo qo b).mono fun e w' h=>ET h (by rw[aL];have:=SZ s qo;omega)
theorem TA(a:oD)(c:Nat)(v:V3)(b:cS v)(m:Nat)(g:v.2.2.size<=m)(hm:m<=1000000)(l:lU)(w:World)(f:l.length<=1000000)(d:Sl w w.heap.size a (bF l)):Calls prog 129 #[.slice a l.length c,.agg #[.int .i64 v.1,.int .i64 v.2.1,.string v.2.2]] w (CP (l.length+20+m) w):=
 (Np a c l.length l rfl v ⟨b.1,b.2.1,qo⟩ w qo d).mono fun e w' h=>ET h (by
   rw[aL];have h1:=sN v.1 b.1.1 b.1.2;have h2:=sN v.2.1 b.2.1.1 b.2.1.2;have h3:=SZ v.2.2 qo;unfold CI;rw[aL];split<;>omega)
theorem XF(b:Bool)(w:World):Calls prog 91 #[.bool b] w (aO (dD (cI b)) w):=by
 have a:Hid (∀x,dD (1,x,ByteArray.empty)=.agg #[.int .i64 1,.int .i64 x,.string ByteArray.empty]):=aA (fun x=>rfl);have e:cI b=(1,if b then 1 else 0,ByteArray.empty):=rfl;rw[e,a.o];clear e;have HBE:=aA (fun c d:Obj=>aC (aB w c) (aB _ d));unfold aO
 cases b
 .go_enter func91,ntmps91;exact QDj
 .go_enter func91,ntmps91;exact QDk
structure RT (o:Op):Prop where
 aC6:o.aC6.size<=16
 aCX:o.aCX.size<=16
 aDc:o.aDc.size<=16
 to_:o.to_.size<=16
 val:o.val.2.2.size<=64
 aDf:o.aDf.size<=64
 text:o.text.size<=4096
theorem Nq(o:Op)(V:kF o)(M:RT o)(w:World):Calls prog 76 #[fF o] w (CP (320+o.text.size) w):=by
 obtain⟨W0,P⟩:=xE (w.alloc (.cells (cB o) 71));have ai:Below w.heap.size w W0:=by rw[P];exact aB _ _
 have B:Hid (W0.heap[w.heap.size]? =some (.cells (cB o) 71 (0,0))):=aA (by rw[P];exact aK _ _ _ rfl);obtain⟨a6,G,Z,T⟩:=dG ai M V (SY none 0 o.aCR V.1 [] W0 qe (by intro h;exact absurd rfl h));rw[show ([]:lU).length=0 from rfl] at T;have bl:=aA P;unfold fF cB at *;clear P ai V M;obtain⟨⟨f,g,n,p,q,r,t,v,x,y,j,m⟩,_⟩:=bO B.o;have C:=aD B.o;go_enter func76,ntmps76;go_upto_region 1 with (fail)
 rw[<-bl.o];go_wp2_with fail;refine T.o.mono ?_;rintro e w1 ⟨l1,A1,c1,rfl,al,ao,_,U⟩;obtain⟨J,Q⟩:=xE (w1.alloc (.cells #[.string o.aC6,.string o.aCX,.string o.aDc,.string o.to_] 9));have O:Below w1.heap.size w1 J:=by rw[Q];exact aB _ _
 have S:Hid (J.heap[w1.heap.size]? =some (.cells #[.string o.aC6,.string o.aCX,.string o.aDc,.string o.to_] 9 (0,0))):=aA (by rw[Q];exact aK _ _ _ rfl);have bc:=aA (ao.on O);have X:=qB a6 (aC U O);replace B:=qK B U;obtain⟨ba,bm,a8⟩:=aY al Q O;clear Q O U ao al f g n p q r t v x y j m C T;obtain⟨⟨f,g,n,p,q,r,t,v,x,y,j,m⟩,_⟩:=bO B.o;have C:=aD B.o;have bk:Hid (∀(k:Nat) (hk:k<4) (wr:World),Below J.heap.size J wr->∃s:bY,s.size<=16/\wr.cell? ⟨w1.heap.size,0+k,none⟩=some (.string s)):=aA (fun k hk wr hb=>by
  obtain⟨⟨S0,S1,S2,S3⟩,_⟩:=nI (aE S.o hb);have:k=0\/k=1\/k=2\/k=3:=qo
  rcases this with rfl|rfl|rfl|rfl
  .exact⟨_,G.o.aC6,S0⟩
  .exact⟨_,G.o.aCX,S1⟩
  .exact⟨_,G.o.aDc,S2⟩
  .exact⟨_,G.o.to_,S3⟩)
 go_wp2;rw[<-bm.o];replace B:=qK B a8.o;clear f g n p q r t v x y j m C;go_loopw [3,5,19] (fun b s i wr=>∃(k:Nat) (l:lU) (A:oD) (c:Nat),k<=4/\i=.int .i64 k/\b=.slice A l.length c/\Hid (l.length<=10+k * 26)/\Hid (Sl wr wr.heap.size A (bF l))/\Hid (Below J.heap.size J wr)) (fun _ _ i _=>4 - (intOf i).toNat)
 case atStart=>exact⟨0,l1,A1,c1,qo,rfl,rfl,aA (qA ba.o),bc,aA (Below.refl _ _)⟩
 case round=>
  obtain⟨k,l,A,c,hk,rfl,rfl,N,af,z⟩:=hrel;by_cases bt:k<4
  .have b2:(k:Int)<4:=qo;obtain⟨s,M,hc⟩:=bk.o k bt wr z.o;have br:=hc;rw[Nat.zero_add] at br;have HT:=aA (CQ A c s 16 M qe l wr (qA N.o) af.o);clear M;go_wp2_with fail;refine HT.o.mono ?_;rintro e w2 ⟨l2,A2,c2,rfl,F,D,_,a⟩;obtain⟨bb,bd,a7⟩:=aY F D (aC z.o a);clear F D a;go_wp2;go_round
   case rel=>exact⟨k+1,l2,A2,c2,qo,by go_num,rfl,aA (qD bb.o N.o),bd,a7⟩
   case measure=>simp[intOf];omega
  .obtain rfl:k=4:=qo;replace B:=qK B z.o;obtain⟨⟨f,g,n,p,q,r,t,v,x,y,j,m⟩,_⟩:=bO B.o;have C:=aD B.o;go_upto_region 7 with (fail)
   have H:Below wr.heap.size wr wr.drew:=(Below.refl _ _).drew;have L:=aA (af.o.on H);replace z:=qB z H;replace B:=qK B H;clear H;refine cA 7 [(0,false),(1,false),(2,false),(4,false),(5,false),(3,true),(6,true)] [(7,true)] (fun w'=>w'.heap[w.heap.size]? =some (.cells (rE o) 71 (0,0))) (by kernel_rfl) (by kernel_rfl) B.o ?_;simp only[List.cons_append,List.nil_append]
   repeat (refine cU rfl (fun K I=> ?_);unfold rd;go_simp;refine I _ (fun bx h1=> ?_) ?_;(· clear I K f g n p q r t v x y j m C;obtain⟨⟨f,g,n,p,q,r,t,v,x,y,j,m⟩,_⟩:=bO h1;have C:=aD h1;unfold rd;go_simp);clear I K)
   refine bG rfl (fun E d=> ?_);unfold mv;go_simp;refine(TA A c o.val Z.o.2.2.2.2.2.1 64 G.o.val qe l wr.drew (qA N.o) L.o).mono ?_;rintro e bz ⟨ar,ax,bn,rfl,F,D,_,a⟩;have aa:Hid (ar.length<=10+4 * 26+84):=aA (qA N.o);have be:=aA D;replace z:=qB z a;replace B:=qK B a;refine d _ _ (fun _=>B.o) ?_;clear d E F D a f g n p q r t v x y j m C L;obtain⟨⟨f,g,n,p,q,r,t,v,x,y,j,m⟩,_⟩:=bO B.o;have C:=aD B.o;refine bG rfl (fun E d=> ?_);unfold mv;go_simp;refine(SY ax bn o.aDd Z.o.2.2.2.2.2.2.1 ar bz (qA aa.o) be.o).mono ?_;rintro e R ⟨au,ay,bo,rfl,F,D,_,a⟩;have ab:Hid (au.length<=10+4 * 26+94):=aA (qA aa.o);have bf:=aA D;replace z:=qB z a;replace B:=qK B a;refine d _ _ (fun _=>B.o) ?_;clear d E F D a f g n p q r t v x y j m C;obtain⟨⟨f,g,n,p,q,r,t,v,x,y,j,m⟩,_⟩:=bO B.o;have C:=aD B.o;refine bG rfl (fun E d=> ?_);unfold mv;go_simp;refine d _ _ (fun h=>absurd h qe) ?_;clear d E;unfold cG;go_upto_region 8 with (fail)
   have H:Below R.heap.size R R.drew:=(Below.refl _ _).drew;have L:=aA (bf.o.on H);replace z:=qB z H;replace B:=qK B H;clear H;refine cA 7 [(0,false),(1,false),(2,false),(4,false),(5,false),(3,true),(6,true)] [(7,true)] (fun w'=>w'.heap[w.heap.size]? =some (.cells (rE o) 71 (0,0))) (by kernel_rfl) (by kernel_rfl) B.o ?_;simp only[List.cons_append,List.nil_append]
   repeat (refine cU rfl (fun K I=> ?_);unfold rd;go_simp;refine I _ (fun bx h1=> ?_) ?_;(· clear I K f g n p q r t v x y j m C;obtain⟨⟨f,g,n,p,q,r,t,v,x,y,j,m⟩,_⟩:=bO h1;have C:=aD h1;unfold rd;go_simp);clear I K)
   refine bG rfl (fun E d=> ?_);unfold mv;go_simp;refine(CQ ay bo o.text o.text.size (lR _) (qA G.o.text) au R.drew (qA ab.o) L.o).mono ?_;rintro e b0 ⟨av,az,bp,rfl,F,D,_,a⟩;have ad:Hid (av.length<=10+4 * 26+104+o.text.size):=aA (qA ab.o);have bg:=aA D;replace z:=qB z a;replace B:=qK B a;refine d _ _ (fun _=>B.o) ?_;clear d E F D a f g n p q r t v x y j m C L;obtain⟨⟨f,g,n,p,q,r,t,v,x,y,j,m⟩,_⟩:=bO B.o;have C:=aD B.o;refine bG rfl (fun E d=> ?_);unfold mv;go_simp;refine(CQ az bp o.aDf 64 G.o.aDf qe av b0 (qD ad.o G.o.text) bg.o).mono ?_;rintro e b1 ⟨aw,a1,bq,rfl,F,D,_,a⟩;have ae:Hid (aw.length<=10+4 * 26+104+74+o.text.size):=aA (qA ad.o);have bh:=aA D;replace z:=qB z a;replace B:=qK B a;refine d _ _ (fun _=>B.o) ?_;clear d E F D a f g n p q r t v x y j m C;obtain⟨⟨f,g,n,p,q,r,t,v,x,y,j,m⟩,_⟩:=bO B.o;have C:=aD B.o;refine bG rfl (fun E d=> ?_);unfold mv;go_simp;refine d _ _ (fun h=>absurd h qe) ?_;clear d E;unfold cG;go_wp2_with fail;refine(XF o.aDk b1).mono ?_;rintro e w9 ⟨rfl,ak⟩;have bj:=aA (bh.o.on ak);have Y:=qB z ak;have ag:=TA a1 bq (cI o.aDk) (by unfold cI cS bK;dsimp only;split<;>exact⟨qe,qe,qe⟩) 0 (lR _) qe aw w9 (qD ae.o G.o.text) bj.o;obtain⟨tv,bu⟩:∃tv,cI o.aDk=tv:=⟨_,rfl⟩;rw[bu] at ag ⊢;unfold dD;go_wp2_with fail;refine ag.mono ?_;rintro e bw ⟨l10,W,ah,rfl,bs,aq,an,aj⟩;have HE:Hid (CP (320+o.text.size) w (.returned (.slice W l10.length ah)) bw):=aA ⟨l10,W,ah,rfl,qA ae.o,aq,sO an (lT X.o.size (lT Y.o.size (lR _))),aC (aC X.o Y.o) aj⟩
   clear bs aq an aj;go_wp2;go_ret;exact HE.o
theorem XG(p:BitVec 64)(o:Op)(T:kF o)(z:RT o)(w:World):Calls prog 36 #[.int .u64 (n64 p),fF o] w (fun e w'=>CP (328+o.text.size) w e w'/\∀l A c,e=.returned (.slice A (l:lU).length c)->8<=l.length):=by
 obtain⟨W0,q⟩:=xE (w.alloc (.cells (cB o) 71));have N:Below w.heap.size w W0:=by rw[q];exact aB _ _
 have B:Hid (W0.heap[w.heap.size]? =some (.cells (cB o) 71 (0,0))):=aA (by rw[q];exact aK _ _ _ rfl);have C:=aA N;have v:=Nq o T z;have H:=aA z.text;obtain⟨i0,R,X,Y,Z⟩:=info_parts uV;obtain⟨J,K,L,M,al⟩:=gC R X Y Z q;unfold fF cB at *;have v:=aA v;clear q N T z R X Y Z;go_enter func36,ntmps36;go_upto_region 1 with (fail)
 rw[<-al.o];go_wp2;go_loopw [5,0,6] (fun b h i wr=>∃(k:Nat) (l:lU) (u:Nat),k<=8/\Hid (l.length=k)/\i=.int .i64 k/\h=.int .u64 (u:Int)/\Hid (SB u)/\Hid (wr.ownsRow W0.heap.size 5 1 b k (bF l))/\Hid (Below W0.heap.size W0 wr)) (fun _ _ i _=>8 - (intOf i).toNat)
 case atStart=>exact⟨0,[],p.toNat,qo,aA rfl,rfl,rfl,aA p.isLt,aA (World.ownsRow_nil _ _ _ _),aA (Below.refl _ _)⟩
 case round=>
  obtain⟨k,l,u,hk,D,rfl,rfl,HU,F,n⟩:=hrel;by_cases ao:k<8
  .have an:(k:Int)<8:=qo;have aq:(0:Int)<=(u:Int):=qo;have O:(((UInt8.ofNat (u % 256)).toNat:Nat):Int)=(u:Int) % 256:=by rw[lZ (u % 256) qo];omega
   have W:Hid (bF [UInt8.ofNat (u % 256)]=[.int .u8 ((u:Int) % 256)]):=aA (by show[Value.int .u8 ((UInt8.ofNat (u % 256)).toNat:Int)]=_;rw[O]);have E:=aA (tQ [UInt8.ofNat (u % 256)]);have I:Hid ((bF [UInt8.ofNat (u % 256)]).length=1 * 1):=aA rfl;have ae:Hid ((u:Int) / 256=((u / 256:Nat):Int)):=aA qo;have aj:Hid (SB (u / 256)):=aA (by have:=HU.o;unfold SB at *;omega);generalize U:bF [UInt8.ofNat (u % 256)]=Q at W E I;have HQ:=aA U;have y:=F.o.alloc (.cells #[.int .u8 ((u:Int) % 256)] 5);have P:Sl (wr.alloc (.cells #[.int .u8 ((u:Int) % 256)] 5)) (wr.heap.size+1) (some ⟨wr.heap.size,0,none⟩) Q:=by rw[W.o];exact Sl.laid wr _ _ _ _ rfl
   have a:=n.o.alloc n.o.size (.cells #[.int .u8 ((u:Int) % 256)] 5);clear O U;go_wp2_with (at_builtin;refine lK _ rfl (.tmp 8) (.tmp 11) 83 rfl W0.heap.size 5 i0 (.int .u8 0) 1 1 underlying83 J.o K.o L.o M.o rfl qe _ k _ rfl y (wr.heap.size+1) (some ⟨wr.heap.size,0,none⟩) 1 1 Q rfl I.o P E.o (by unfold maxLen;omega) qo a.size ?_;intro v3 r d m x;have j:Below W0.heap.size W0 r:=dU y a m (lR _) a.size;have ah:=aA d;have ad:=aA j;clear y P a d m x j)
   go_round
   case rel=>exact⟨k+1,l++[UInt8.ofNat (u % 256)],u / 256,qo,aA (by rw[aL,D.o];rfl),by go_num,by rw[<-ae.o],aj,aA (by rw[iW,HQ.o];exact ah.o),ad⟩
   case measure=>simp[intOf];omega
  .obtain rfl:k=8:=qo;replace B:=qK B n.o;obtain⟨⟨B0,B1,B2,B3,B4,B5,B6,B7,B8,B9,aa,ab⟩,_⟩:=bO B.o;have zB:=aD B.o;go_wp2_with fail;refine(v.o wr).mono ?_;rintro e w2 ⟨f,A2,c2,rfl,S,V,_,a⟩;have G:=aA (lN F.o (aJ (ok:=fun _=>True) a) (fun _ _=>trivial));obtain⟨s,ai,t,ag⟩:=dG (aC n.o a) V S (tQ f);have ak:Hid ((bF f).length=f.length * 1):=aA (by rw[uJ,Nat.mul_one]);clear S V a B0 B1 B2 B3 B4 B5 B6 B7 B8 B9 aa ab zB;go_wp2_with (at_builtin;refine lK _ rfl (.tmp 16) (.tmp 18) 83 rfl W0.heap.size 5 i0 (.int .u8 0) 1 1 underlying83 J.o K.o L.o M.o rfl qe _ 8 _ rfl G.o w2.heap.size A2 f.length c2 (bF f) rfl ak.o ai.o ag.o (by have:=t.o;have:=H.o;unfold maxLen;omega) (qD t.o H.o) s.o.size ?_;intro v3 r d m x)
   have j:Below w.heap.size w r:=aC C.o (dU G.o s.o m (lR _) s.o.size);have af:Hid (∀(l:lU) A c,Ending.returned v3=.returned (.slice A l.length c)->8<=l.length):=aA (fun l A c e=>by
    injection e with e;have h:=d.2;rw[e] at h
    rcases h with ⟨h1,h2⟩|⟨g,cap,cur,h1,_⟩
    .omega
    .injection h1 with _ h1 _;omega)
   have HE:Hid (CP (328+o.text.size) w (.returned v3) r):=by
    have h9:(l++f).length=8+f.length:=by rw[aL,D.o]
    rw[<-iW,<-h9] at d;exact aA (ET ⟨v3,rfl,sO d C.o.size,j⟩ (by rw[h9];have:=t.o;omega))
   clear d m x j;go_wp2;go_ret;exact⟨HE.o,af.o⟩
end
namespace Crc
def aCk:BitVec 32:=0xedb88320#32
def aCl:BitVec 32:=4294967295#32
def step(s:BitVec 32):BitVec 32:=if s.getLsbD 0 then (s >>> 1) ^^^ aCk else s >>> 1
def zQ:Nat->BitVec 32->BitVec 32
 |0,s=>s
 |n+1,s=>zQ n (step s)
def upd(s:BitVec 32)(c:BitVec 8):BitVec 32:=zQ 8 (s ^^^ c.setWidth 32)
def ZN(s:BitVec 32)(l:List (BitVec 8)):BitVec 32:=l.foldl upd s
def sum(l:List (BitVec 8)):BitVec 32:= ~~~ (ZN aCl l)
theorem aCH:sum []=0#32:=qe
theorem aAG(m:Nat):∀n s,zQ (m+n) s=zQ n (zQ m s):=by
 induction m with
 |zero=>intro n s;simp[zQ]
 |succ m a=>intro n s;rw[Nat.succ_add];simp only[zQ];exact a n _
end Crc
theorem TB(s:BitVec 32)(l:List (BitVec 8))(k:Nat)(a:k<l.length):Crc.ZN s (l.take (k+1))=Crc.upd (Crc.ZN s (l.take k)) l[k]:=by
 rw[List.take_add_one,gE a];unfold Crc.ZN;rw[List.foldl_append];rfl
theorem Gx(n:Nat)(s:BitVec 32):Crc.zQ (n+1) s=Crc.step (Crc.zQ n s):=by
 rw[Crc.aAG];rfl
theorem Nr(s:BitVec 32)(l:lU)(k:Nat)(a:k<l.length):
 Crc.ZN s ((l.map (·.toBitVec)).take (k+1))=Crc.upd (Crc.ZN s ((l.map (·.toBitVec)).take k)) l[k].toBitVec:=by
 rw[TB _ _ _ (by simpa using a)];simp
theorem Ue(a:oD)(cap n:Nat)(l:lU)(y:l.length=n)(w:World)(B:Nat)(C:l.length<=140737488351232)(r:Sl w B a (bF l)):
 Calls prog 133 #[.slice a n cap] w fun e w'=>e=.returned (.int .u32 (nA (Crc.sum (l.map (·.toBitVec)))))/\w=w':=by
 subst y;go_enter func133,ntmps133;go_wp2;go_loop [3,9] (fun s i=>∃k:Nat,k<=l.length/\i=.int .i64 k/\s=.int .u32 (nA (Crc.ZN Crc.aCl ((l.map (·.toBitVec)).take k)))) (fun _ i=>l.length - (intOf i).toNat)
 case atStart=>exact⟨0,Nat.zero_le _,rfl,rfl⟩
 case round=>
  obtain⟨k,A,rfl,rfl⟩:=hrel;by_cases q:k<l.length
  .obtain⟨b,off,rfl,_,f⟩:=r.byte q;have o:=aA (Nr Crc.aCl l k q);generalize Crc.ZN Crc.aCl ((l.map (·.toBitVec)).take k)=s at o ⊢;generalize l[k]=c at o f;have p:=Mm c;have g:=YZ;rw[p] at f;have v:=Fj (c.toBitVec.setWidth 32);have x:nA (c.toBitVec.setWidth 32)<256:=by rw[<-p];have:=c.toNat_lt;omega
   clear r p;go_wp2;go_loop [3,17] (fun t i=>∃j:Nat,j<=8/\i=.int .i64 j/\t=.int .u32 (nA (Crc.zQ j (s ^^^ c.toBitVec.setWidth 32)))) (fun _ i=>8 - (intOf i).toNat)
   case atStart=>exact⟨0,qo,rfl,rfl⟩
   case round=>
    obtain⟨j,hj,rfl,rfl⟩:=hrel;by_cases z:j<8
    .have m:=aA (Gx j (s ^^^ c.toBitVec.setWidth 32));generalize Crc.zQ j (s ^^^ c.toBitVec.setWidth 32)=t at m ⊢;have h3:bits .xor .u32 (nA (t >>> 1)) 3988292384=nA (t >>> 1 ^^^ Crc.aCk):=YZ _ Crc.aCk;have h1:=Mo t;have h4:=Fj t;clear g f v x
     cases d:t.getLsbD 0
     .rw[d] at h1;simp only[Bool.false_eq_true,if_false] at h1;go_wp2;go_round
      case rel=>exact⟨j+1,qo,by go_num,by rw[m.o,Crc.step,d,RY];rfl⟩
      case measure=>simp[intOf];omega
     .rw[d] at h1;simp only[if_true] at h1;go_wp2;go_round
      case rel=>exact⟨j+1,qo,by go_num,by rw[m.o,Crc.step,d,RY,h3];rfl⟩
      case measure=>simp[intOf];omega
    .obtain rfl:j=8:=qo;clear g f;go_wp2;go_round
     case rel=>exact⟨k+1,qo,by go_num,by rw[o.o];rfl⟩
     case measure=>simp[intOf];omega
  .have g:=Tj (Crc.ZN Crc.aCl ((l.map (·.toBitVec)).take k));obtain rfl:k=l.length:=qo;have e:(l.map (·.toBitVec)).take l.length=l.map (·.toBitVec):=List.take_of_length_le qs;rw[e] at g ⊢;go_wp2;go_ret;exact⟨rfl,rfl⟩
section
open Pv
def TC:Rep UInt8:=mJ (fun c=>[.int .u8 (c.toNat:Int)]) (fun _=>True)
theorem TD:Firm TC 1:=gD (fun _=>rfl) (fun x v h=>by rw[List.mem_singleton.1 h];rfl)
theorem TE:∀{l:lU} {cs:List Value},aX (fun r x=>r=[.int .u8 ((x:UInt8).toNat:Int)]/\True) cs l->cs=bF l
 | [],cs,h=>h
 |x::l,cs,⟨r,t,e,hr,ht⟩=>by rw[e,hr.1,TE ht];rfl
theorem FT:∀(l:lU),aX (fun r x=>r=[.int .u8 ((x:UInt8).toNat:Int)]/\True) (bF l) l
 | []=>rfl
 |x::l=>⟨_,_,rfl,⟨rfl,trivial⟩,FT l⟩
theorem Xo{w:World}{ok:nP}{v:Value}{l:lU}(h:aH TC w ok v l):∃a c,v=.slice a l.length c/\gY w ok a (bF l)/\l.length<=1000000:=by
 obtain⟨a,c,cs,e,h1,h2,h3⟩:=h;rw[TE h2] at h1;exact⟨a,c,e,h1,h3⟩
theorem Xp{w:World}{ok:nP}{a:oD}{c:Nat}{l:lU}(h:gY w ok a (bF l))(b:l.length<=1000000):aH TC w ok (.slice a l.length c) l:=⟨a,c,bF l,rfl,h,FT l,b⟩
theorem Gy(n:Nat)(h0:0<n)(q:n<=2000000)(w:World):Calls prog 178 #[.slice none 0 0,.int .i64 n] w (fun e w'=>∃v,e=.returned v/\w'.ownsRow w.heap.size 5 1 v 0 []/\Below w.heap.size w w'):=by
 obtain⟨i0,f,i,m,j⟩:=info_parts uV;obtain⟨G,a⟩:=xE (grownCap w n 0 5);obtain⟨c,b⟩:=xE (w.drew.alloc (.cells (Builtin.zeroCells (Value.int .u8 0).cells n++Builtin.zeroCells (Value.int .u8 0).cells (G - n)) 5));have g:∀ty,(Builtin.append_ #[83,3] ty #[.slice none 0 0,.int .i64 n]).run prog w=.ok (.slice (some ⟨w.heap.size,0,none⟩) n G) c:=fun ty=>by
  rw[b,a];exact Lib.run_append_nil_zeros w 83 3 ty 5 i0 _ .i64 .i64 underlying83 (by kernel_rfl) f i n h0 qo qo (by rw[j];omega)
 have p:n<=G:=by rw[a];exact grownCap_ge w _ _ _
 have l:G<=maxLen:=by rw[a];exact grownCap_le_maxLen w n 0 _ (by unfold maxLen;omega)
 have d:Hid (c.ownsRow w.heap.size 5 1 (.slice (some ⟨w.heap.size,0,none⟩) 0 G) 0 []/\Below w.heap.size w c):=aA (by
  refine⟨⟨rfl,.inr ⟨w.heap.size,G,_,rfl,lR _,by rw[b];exact heap_alloc_new w.drew _,Nat.zero_le _,l,?_,rfl⟩⟩,?_⟩
  .simp only[Builtin.zeroCells,Array.size_append,Array.size_map,Array.size_range];simp[Value.cells];omega
  .have h:=aB w.drew (.cells (Builtin.zeroCells (Value.int .u8 0).cells n++Builtin.zeroCells (Value.int .u8 0).cells (G - n)) 5);rw[b];exact⟨h.os,h.tape,h.output,h.size,h.block⟩)
 have r:¬((n:Int)<0):=qo;have s:(0:Int)<(n:Int):=qo;have o:(0:Nat)<=G:=Nat.zero_le _;have k:=aA g;clear b a f i m j g;go_enter func178,ntmps178;go_wp2_with (at_builtin;refine Lib.wpList_append_run _ rfl _ _ _ _ rfl _ _ rfl rfl _ _ (k.o _) ?_)
 go_ret;exact⟨_,rfl,d.o.1,d.o.2⟩
def MN(n:Nat)(w:World)(e:Ending)(w':World):Prop:=∃(l:lU) (A:oD) (c:Nat),e=.returned (.slice A l.length c)/\l.length=n/\Sl w' w'.heap.size A (bF l)/\w'.ownsRow w.heap.size 5 1 (.slice A l.length c) l.length (bF l)/\Below w.heap.size w w'
theorem ZO{w:World}{l:lU}{n:Nat}{e:Ending}{w':World}(h:oM w l e w')(a:l.length=n):MN n w e w':=by
 obtain⟨A,c,h1,h2,h3,h4⟩:=qC h;exact⟨l,A,c,h1,a,h2,h3,h4⟩
def tX(L:List (List UInt8))(k:Nat):Nat:=((L.take k).map List.length).sum
theorem TF{L:List (List UInt8)}{k:Nat}(a:k<L.length):tX L (k+1)=tX L k+L[k].length:=by
 unfold tX;rw[List.take_succ_eq_append_getElem a,List.map_append,List.sum_append];simp
theorem Xq(L:List (List UInt8))(k:Nat):tX L k<=tX L L.length:=by
 unfold tX;rw[List.take_length]
 conv=>rhs;rw[<-List.take_append_drop k L,List.map_append,List.sum_append]
 omega
theorem JZ{ok:nP}(v:Value)(L:List (List UInt8))(w:World)(h:aH (rows TC) w ok v L)(n:Nat)(O:tX L L.length=n)(h0:0<n)(hm:n<=2000000):Calls prog 131 #[v] w (MN n w):=by
 obtain⟨i0,N,S,T,U⟩:=info_parts uV;obtain⟨Hi,ad,ae,af⟩:=dG N S T U;obtain⟨a,c,rfl,al⟩:=h.slice;obtain⟨F,p,G,D,E⟩:=gC h O (Xq L) (Gy n h0 hm w) hm;clear N S T U h O h0 hm;go_enter func131,ntmps131;go_wp2;go_loop [3,5,11] (fun z s i=>∃(k:Nat),k<=L.length/\i=.int .i64 k/\z=.int .i64 (tX L k:Nat)) (fun _ _ i=>L.length - (intOf i).toNat)
 case atStart=>exact⟨0,Nat.zero_le _,rfl,rfl⟩
 case round=>
  obtain⟨k,hk,rfl,rfl⟩:=hrel;by_cases j:k<L.length
  .have ai:(k:Int)<(L.length:Int):=qo;obtain⟨b,off,r,rfl,_,ah,⟨vk,rfl,o⟩,g⟩:=aH.at (rG TD) F.o j qe;obtain⟨H,I,rfl,aj⟩:=o.slice;have C:=g 0 _ rfl;rw[Nat.add_zero,Nat.mul_one] at C;have f:=aA (TF j);have B:=G.o (k+1);have q:Hid (tX L k+L[k].length<=2000000):=aA (by rw[<-f.o];have:=p.o;have:=E.o;omega);have an:(0:Int)<=(tX L k:Nat)+(L[k].length:Nat):=qo;have ao:¬(((tX L k:Nat):Int)+(L[k].length:Nat)<0):=qo;have aq:IntKind.i64.wrap (((tX L k:Nat):Int)+(L[k].length:Nat))=((tX L k:Nat):Int)+(L[k].length:Nat):=IntWalk.i64_in _ (qA q.o);generalize L[k].length=m at *;generalize tX L k=t at *;clear g o B;go_wp2;go_round
   case rel=>exact⟨k+1,qo,by go_num,by rw[f.o];go_num⟩
   case measure=>simp[intOf];omega
  .obtain rfl:k=L.length:=qo;rw[p.o];go_wp2_with fail;refine D.o.mono ?_;rintro e w1 ⟨v1,rfl,P,J⟩;have Y:=aA P;have V:=aA J;clear P J D;go_wp2;go_loopw [6,8,27] (fun z s i wr=>∃(k:Nat) (l:lU),k<=L.length/\i=.int .i64 k/\Hid (l.length=tX L k)/\Hid (wr.ownsRow w.heap.size 5 1 z l.length (bF l))/\Hid (Below w.heap.size w wr)) (fun _ _ i _=>L.length - (intOf i).toNat)
   case atStart=>exact⟨0,[],Nat.zero_le _,rfl,aA rfl,Y,V⟩
   case round=>
    obtain⟨k,l,hk,rfl,y,A,d⟩:=hrel;by_cases j:k<L.length
    .have ai:(k:Int)<(L.length:Int):=qo;obtain⟨b,off,r,rfl,_,ah,⟨vk,rfl,o⟩,g⟩:=aH.at (rG TD) (aH.on (rG TD) F.o d.o) j qe;obtain⟨H,I,rfl,R,aj⟩:=Xo o;have C:=g 0 _ rfl;rw[Nat.add_zero,Nat.mul_one] at C;have f:=aA (TF j);have B:=G.o (k+1);generalize L[k]=x at *;have q:Hid (l.length+x.length<=2000000):=aA (by rw[y.o,<-f.o];have:=p.o;have:=E.o;omega);have aa:=aA R.lt;have HV:Hid ((bF x).length=x.length * 1):=aA (by rw[uJ,Nat.mul_one]);have ab:=aA (tQ x);clear g o B R;go_wp2_with (at_builtin;refine lK _ rfl (.tmp 31) (.tmp 32) 83 rfl w.heap.size 5 i0 (.int .u8 0) 1 1 underlying83 Hi.o ad.o ae.o af.o rfl qe _ l.length _ rfl A.o wr.heap.size H x.length I (bF x) rfl HV.o aa.o ab.o (by have:=q.o;unfold maxLen;omega) (qA q.o) d.o.size ?_;intro v3 w3 Q M ag;have K:Below w.heap.size w w3:=dU A.o d.o M (lR _) d.o.size;have Z:=aA Q;have W:=aA K;clear Q M ag K)
     go_round
     case rel=>exact⟨k+1,l++x,qo,by go_num,aA (by rw[aL,y.o,f.o]),aA (by rw[aL,iW];exact Z.o),W⟩
     case measure=>simp[intOf];omega
    .obtain rfl:k=L.length:=qo;have X:Hid (MN n w (.returned u6) wr):=aA (ZO ⟨_,rfl,A.o,d.o⟩ (y.o.trans p.o));go_wp2;go_ret;exact X.o
theorem TG{W:World}{g c:Nat}{cs:List Value}{t:TypeId}{L:List (List UInt8)}(b:W.heap[g]? =some (.cells cs.toArray t (0,0)))(a:aX (rows TC W (fun _=>True)) cs L)(e:L.length<=1000):aH (rows TC) W (fun _=>True) (.slice (some ⟨g,0,none⟩) L.length c) L:=
 ⟨_,_,cs,rfl,fun _=>⟨g,0,rfl,trivial,fun i x d=>by rw[Nat.zero_add];simp only[World.cell?,b];simpa using d⟩,a,qo⟩
theorem CR{W:World}{a:oD}{c:Nat}{l:lU}(d:Sl W W.heap.size a (bF l))(b:l.length<=1000000):rows TC W (fun _=>True) [.slice a l.length c] l:=⟨_,rfl,Xp ((gY.aD7 d).more fun _ _=>trivial) b⟩
theorem Ns(a:oD)(c:Nat)(l:lU)(w:World)(d:l.length<=1000000)(b:Sl w w.heap.size a (bF l)):Calls prog 133 #[.slice a l.length c] w (fun e w'=>∃h:BitVec 32,e=.returned (.int .u32 (nA h))/\w=w'):=
 (Ue a c l.length l rfl w w.heap.size qo b).mono fun e w' h=>⟨_,h⟩
theorem TH(h:BitVec 32)(w:World):Calls prog 132 #[.int .u32 (nA h)] w (MN 4 w):=by
 go_enter func132,ntmps132;go_wp2;go_ret;have hu:nA h=(h.toNat:Int):=rfl;rw[hu];generalize h.toNat=u;have e:(#[.int .u8 ((u:Int) % 256),.int .u8 ((u:Int) / 256 % 256),.int .u8 ((u:Int) / 65536 % 256),.int .u8 ((u:Int) / 16777216 % 256)]:Array Value).toList=bF [UInt8.ofNat (u % 256),UInt8.ofNat (u / 256 % 256),UInt8.ofNat (u / 65536 % 256),UInt8.ofNat (u / 16777216 % 256)]:=by
  show _=[Value.int .u8 ((UInt8.ofNat (u % 256)).toNat:Int),.int .u8 ((UInt8.ofNat (u / 256 % 256)).toNat:Int),.int .u8 ((UInt8.ofNat (u / 65536 % 256)).toNat:Int),.int .u8 ((UInt8.ofNat (u / 16777216 % 256)).toNat:Int)];rw[lZ _ qo,lZ _ qo,lZ _ qo,lZ _ qo];simp only[Int.natCast_emod,Int.natCast_ediv];rfl
 exact ZO (l:=[UInt8.ofNat (u % 256),UInt8.ofNat (u / 256 % 256),UInt8.ofNat (u / 65536 % 256),UInt8.ofNat (u / 16777216 % 256)]) ⟨.slice (some ⟨w.heap.size,0,none⟩) 4 4,rfl,⟨rfl,.inr ⟨w.heap.size,4,_,rfl,lR _,aK _ _ _ rfl,lR _,by unfold maxLen;omega,rfl,e⟩⟩,aB _ _⟩ rfl
theorem Gz(a:oD)(c:Nat)(l:lU)(w:World)(C:l.length<=10000)(H:Sl w w.heap.size a (bF l)):Calls prog 78 #[.slice a l.length c] w (MN (8+l.length) w):=by
 have x:=aA H;have o:=aA C;have R:IntKind.u32.wrap (l.length:Int)=nA (BitVec.ofNat 32 l.length):=by
  show _=((BitVec.ofNat 32 l.length).toNat:Int);rw[BitVec.toNat_ofNat,IntKind.wrap_u32];omega
 have s:=aA (TH (BitVec.ofNat 32 l.length) w);generalize BitVec.ofNat 32 l.length=h1 at *;clear H C;go_enter func78,ntmps78;go_wp2_with fail;refine s.o.mono ?_;rintro e w1 ⟨f,i,c1,rfl,D,I,_,y⟩;obtain⟨t,N,k⟩:=aY D I y;clear D I y s;go_wp2_with fail;refine(Ns a c l w1 (qA o.o) (x.o.on k.o)).mono ?_;rintro e S ⟨h2,rfl,rfl⟩;go_wp2_with fail;refine(TH h2 w1).mono ?_;rintro e w2 ⟨g,j,c2,rfl,E,J,_,z⟩;obtain⟨v,O,m⟩:=aY E J z;clear E J z;obtain⟨p,d⟩:=xE (w2.alloc (.cells #[.slice i f.length c1,.slice j g.length c2,.slice a l.length c] 83));have b:Below w2.heap.size w2 p:=by rw[d];exact aB _ _
 have B:p.heap[w2.heap.size]? =some (.cells #[.slice i f.length c1,.slice j g.length c2,.slice a l.length c] 83 (0,0)):=by rw[d];exact aK _ _ _ rfl
 have n:=JZ _ [f,g,l] p (TG (cs:=[.slice i f.length c1,.slice j g.length c2,.slice a l.length c]) (c:=3) B ⟨[_],_,rfl,CR ((N.o.on m.o).on b) (qA t.o),⟨[_],_,rfl,CR (O.o.on b) (qA v.o),⟨[_],[],rfl,CR (((x.o.on k.o).on m.o).on b) (qA o.o),rfl⟩⟩⟩ (by show 3<=1000;omega)) (8+l.length) (by simp only[tX,List.length_cons,List.length_nil,List.take_succ_cons,List.take_zero,List.map_cons,List.map_nil,List.sum_cons,List.sum_nil,t.o,v.o];omega) qo (qA o.o);obtain⟨n,r,P⟩:=aY n (aC (aC k.o m.o) b) d;clear d b B;go_wp2_with fail;rw[<-P.o];refine n.o.mono ?_;rintro e Q ⟨L,q,c4,rfl,F,K,G,A⟩;have M:Hid (MN (8+l.length) w (.returned (.slice q L.length c4)) Q):=aA ⟨L,q,c4,rfl,F,K,sO G r.o.size,aC r.o A⟩;clear F K G A;go_wp2;go_ret;exact M.o
end
end Go.Proofs.YtbinmcabjnoliaaGreatDoor
