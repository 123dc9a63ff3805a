/- Lemmas. -/
import Derived.Test.YtgoanbpcdhmfkaaGreatDoorMad
import Derived.Lib.AppendZerosOnto
namespace Go.Proofs.YtgoanbpcdhmfkaaGreatDoor
open Go.RowKit
set_option linter.unusedVariables false
set_option linter.unusedSimpArgs false
set_option maxHeartbeats 16000000
open _root_.Go.Proofs.Tryz
set_option maxRecDepth 20000
theorem Gk(s:Sto)(o:Op)(what:bY):(lS s o what).aCR=s.aCR:=by unfold lS;dsimp only;split<;>rfl
theorem CJ(o:Op)(d:Bool)(s:Sto)(x:Ob):(cX o d s x).aCR=s.aCR:=by
 unfold cX;split
 .exact Gk _ _ _
 .split
  .rfl
  .split<;>rfl
theorem xS(o:Op)(d:Bool):∀(l:List Ob) (s:Sto),(l.foldl (cX o d) s).aCR=s.aCR
 | [],_=>rfl
 |x::l,s=>(xS o d l _).trans (CJ o d s x)
theorem Gn(s:Sto)(o:Op):(dH s o).aCR=if dN s o=0/\o.aCJ=8 then s.aCR+o.aC6 else s.aCR:=by
 unfold dH;by_cases h0:dN s o=0
 .rw[iN (fun h=>h h0)];dsimp only;by_cases h1:o.aCJ=1
  .rw[iP h1,iN qo]
  rw[iN h1];by_cases h3:o.aCJ=3
  .rw[iP h3,iN qo];rfl
  rw[iN h3];by_cases h4:o.aCJ=4
  .rw[iP h4,iN qo];rfl
  rw[iN h4];by_cases h5:o.aCJ=5
  .rw[iP h5,iN qo]
  rw[iN h5];by_cases h6:o.aCJ=6
  .rw[iP h6,iN (fun h:dN s o=0/\o.aCJ=8=>qA h.2)];split<;>rfl
  rw[iN h6];by_cases h7:o.aCJ=7
  .rw[iP h7,iN (fun h:dN s o=0/\o.aCJ=8=>qA h.2)];split<;>rfl
  rw[iN h7];by_cases h8:o.aCJ=8
  .rw[iP h8,iP ⟨h0,h8⟩]
  rw[iN h8,iN (fun h=>h8 h.2)]
 .rw[iP h0,iN (fun h=>h0 h.1)]
inductive wW (s:Sto) (o:Op):Sto×Rpl×Option Deci×Int->Prop where
 |none (r:Rpl) (e:Int) (he:e≠0) (hr:r.err=e) (hg:r.aDc=false):wW s o (s,r,Option.none,e)
 |some (m:Mk) (l:List Ob) (glass hidden:Bool) (v:V3) (hready:dN s o=0) (hpol:o.aCJ=7->(fD o.text).2.1=0)
   (hidx:iE (pV s o) s.aCL=((m,l),0)) (hgl:glass=jE s o m)
   (hov:qM (l.foldl (cX o (decide (m=(4,0))||glass)) (if (decide (m=(4,0))||glass)=true then dH (if glass=true then gB s o o.aC7 else s) o else (if glass=true then gB s o o.aC7 else s)))=false)
   (hhid:hidden=((decide (m=(4,0))||glass)&&(decide (o.aCJ=2)&&l.any (fun x=>decide (x.aCJ=2)&&decide (x.arg=o.aC4)))))
   (hval:v=if ((decide (m=(4,0))||glass)&&(decide (o.aCJ=2)&& !hidden))=true then ((eT s o.aCQ).map (fun c=>gI c o.aC4)).getD bD else bD):
   wW s o (l.foldl (cX o (decide (m=(4,0))||glass)) (if (decide (m=(4,0))||glass)=true then dH (if glass=true then gB s o o.aC7 else s) o else (if glass=true then gB s o o.aC7 else s)),
    ⟨if (decide (m=(4,0))||glass)=true then 0 else 12,m,glass,v,hidden,0⟩,Option.some ⟨o,s.aCW,m,glass,l⟩,0)
def Rm(s:Sto)(o:Op)(place:Int):Sto×Rpl×Option Deci×Int:=
 let (r,e2):=iE (pV s o) s.aCL
 if e2≠0 then (s,{qN with err:=e2,at_:=place},none,e2)
 else
  let glass:=jE s o r.1
  let done:=decide (r.1=(4,0))||glass
  let a:=if glass then gB s o o.aC7 else s
  let d:=if done then dH a o else a
  let hidden:=done&&(decide (o.aCJ=2)&&r.2.any (fun x=>decide (x.aCJ=2)&&decide (x.arg=o.aC4)))
  let val:=if done&&(decide (o.aCJ=2)&& !hidden) then ((eT s o.aCQ).map (fun c=>gI c o.aC4)).getD bD else bD
  let b:=r.2.foldl (cX o done) d
  if qM b then (s,{qN with err:=6,at_:=place},none,6)
  else (b,⟨if done then 0 else 12,r.1,glass,val,hidden,0⟩,some ⟨o,s.aCW,r.1,glass,r.2⟩,0)
def vW(s:Sto)(o:Op):Int×Int:=if dN s o=0/\o.aCJ=7 then (fD o.text).2 else (dN s o,0)
theorem SQ(s:Sto)(o:Op):cP s o=if (vW s o).1≠0 then (s,{qN with err:=(vW s o).1,at_:=(vW s o).2},none,(vW s o).1) else Rm s o (vW s o).2:=rfl
theorem ZF{s:Sto}{o:Op}(place:Int)(h0:dN s o=0)(hp:o.aCJ=7->(fD o.text).2.1=0):wW s o (Rm s o place):=by
 unfold Rm
 rcases c:iE (pV s o) s.aCL with ⟨⟨m,l⟩,b⟩
 dsimp only;by_cases he:b=0
 .subst he;rw[iN (fun h=>h rfl)];by_cases a:qM (l.foldl (cX o (decide (m=(4,0))||jE s o m)) (if (decide (m=(4,0))||jE s o m)=true then dH (if jE s o m=true then gB s o o.aC7 else s) o else (if jE s o m=true then gB s o o.aC7 else s)))=true
  .rw[iP a];exact wW.none _ _ qe rfl rfl
  .rw[iN a];exact wW.some m l _ _ _ h0 hp c rfl (by simpa using a) rfl rfl
 .rw[iP he];exact wW.none _ _ he rfl rfl
theorem lV(s:Sto)(o:Op):wW s o (cP s o):=by
 rw[SQ];by_cases he:(vW s o).1=0
 .rw[iN (fun h=>h he)];unfold vW at he;by_cases a:dN s o=0/\o.aCJ=7
  .rw[iP a] at he;exact ZF _ a.1 (fun _=>he)
  .rw[iN a] at he;exact ZF _ he (fun h=>absurd ⟨he,h⟩ a)
 .rw[iP he];exact wW.none _ _ he rfl rfl
theorem lH{s:Sto}{o:Op}(h:dN s o=0):gA o=true:=by
 unfold dN at h;by_cases a:gA o=false
 .rw[iP a] at h;exact absurd h qe
 .simpa using a
theorem MG{o:Op}(h:gA o=true):jV o=true:=by
 unfold gA at h;by_cases a:eK o.aCZ=false\/jV o=false\/4096<o.text.size
 .rw[iP a] at h;exact absurd h qe
 .cases b:jV o
  .exact absurd (.inr (.inl b)) a
  .rfl
theorem JT{s:Sto}{o:Op}{m:Mk}(h:dN s o=0)(a:jE s o m=true):1<=o.aCJ/\o.aCJ<=4:=by
 have h1:=MG (lH h);unfold jE at a;rw[Bool.and_eq_true] at a;unfold jV at h1;rw[a.1,iN qe] at h1;rw[Bool.and_eq_true,decide_eq_true_eq] at h1;exact h1.1
theorem uL(g:Bool)(s:Sto)(o:Op)(r:bY):(if g=true then gB s o r else s).aCR=s.aCR:=by split<;>rfl
theorem Bp(s:Sto)(o:Op):(cP s o).1.aCR=s.aCR+(if o.aCJ=8/\(cP s o).2.1.err=0 then o.aC6 else 0):=by
 have h:=lV s o
 rcases c:cP s o with ⟨t,r,d,e⟩
 rw[c] at h
 cases h with
 |none _ _ he j _=>
  dsimp only;rw[iN (fun h=>he (j▸h.2))];omega
 |some m l glass hidden v b q n i p k w=>
  dsimp only;rw[xS];by_cases a:(decide (m=(4,0))||glass)=true
  .rw[iP a,iP a,Gn,uL];by_cases h8:o.aCJ=8
   .have f:glass=false:=by
     cases g:glass
     .rfl
     .have:=JT b (m:=m) (by rw[<-i,g]);omega
    rw[f,iN (show ¬(false=true) by decide),iP ⟨b,h8⟩,iP ⟨h8,rfl⟩]
   .rw[iN (fun h=>h8 h.2),iN (fun h=>h8 h.1)];omega
  .rw[iN a,iN a,uL,iN (fun h=>absurd h.2 qe)];omega
abbrev rE(o:Op):Array Value:=#[.int .i64 o.aCJ,.string o.aCZ,.string o.aCQ,.string o.aC4,.string o.to_,.int .i64 o.val.1,.int .i64 o.val.2.1,.string o.val.2.2,.int .i64 o.aC6,.string o.text,.string o.aC7,.bool o.aDc]
section
open Pv
def CK(n:Nat)(w:World)(e:Ending)(w':World):Prop:=∃(l:lU) (A:oD) (c:Nat),e=.returned (.slice A l.length c)/\l.length<=n/\Sl w' w'.heap.size A (bF l)/\w'.ownsRow w.heap.size 5 1 (.slice A l.length c) l.length (bF l)/\Below w.heap.size w w'
theorem EP{w:World}{l:lU}{n:Nat}{e:Ending}{w':World}(h:oM w l e w')(a:l.length<=n):CK n w e w':=by
 obtain⟨A,c,h1,h2,h3,h4⟩:=qE h;exact⟨l,A,c,h1,a,h2,h3,h4⟩
theorem SR(a:oD)(c:Nat)(k:Int)(b:bK k)(l:lU)(w:World)(f:l.length<=1000000)(d:Sl w w.heap.size a (bF l)):Calls prog 121 #[.slice a l.length c,.int .i64 k] w (CK (l.length+10) w):=
 (EA a c l.length k l rfl w b.1 b.2 qo d).mono fun e w' h=>EP h (by rw[aL];have:=sL k b.1 b.2;omega)
theorem SS(s:bY)(h:s.size<=1000000):(uT s.data.toList).length<=10+s.size:=by
 have a:s.data.toList.length=s.size:=by rw[Array.length_toList];rfl
 unfold uT;rw[aL,a];have:=sL (s.size:Int) qo qo;omega
theorem CL(a:oD)(c:Nat)(s:bY)(m:Nat)(f:s.size<=m)(hm:m<=1000000)(l:lU)(w:World)(d:l.length<=1000000)(b:Sl w w.heap.size a (bF l)):Calls prog 122 #[.slice a l.length c,.string s] w (CK (l.length+10+m) w):=
 (RX a c l.length s l rfl w qo qo b).mono fun e w' h=>EP h (by rw[aL];have:=SS s qo;omega)
theorem SU(a:oD)(c:Nat)(v:V3)(b:cS v)(m:Nat)(g:v.2.2.size<=m)(hm:m<=1000000)(l:lU)(w:World)(f:l.length<=1000000)(d:Sl w w.heap.size a (bF l)):Calls prog 123 #[.slice a l.length c,.agg #[.int .i64 v.1,.int .i64 v.2.1,.string v.2.2]] w (CK (l.length+20+m) w):=
 (Ng a c l.length l rfl v ⟨b.1,b.2.1,qo⟩ w qo d).mono fun e w' h=>EP h (by
   rw[aL];have h1:=sL v.1 b.1.1 b.1.2;have h2:=sL v.2.1 b.2.1.1 b.2.1.2;have h3:=SS v.2.2 qo;unfold CE;rw[aL];split<;>omega)
theorem WZ(b:Bool)(w:World):Calls prog 88 #[.bool b] w (aP (dB (cH b)) w):=by
 have a:Hid (∀x,dB (1,x,ByteArray.empty)=.agg #[.int .i64 1,.int .i64 x,.string ByteArray.empty]):=aA (fun x=>rfl);have e:cH b=(1,if b then 1 else 0,ByteArray.empty):=rfl;rw[e,a.o];clear e;have HBE:=aA (fun c d:Obj=>aC (aB w c) (aB _ d));unfold aP
 cases b
 .go_enter func88,ntmps88;exact QDj
 .go_enter func88,ntmps88;exact QDk
structure RO (o:Op):Prop where
 aCZ:o.aCZ.size<=16
 aCQ:o.aCQ.size<=16
 aC4:o.aC4.size<=16
 to_:o.to_.size<=16
 val:o.val.2.2.size<=64
 aC7:o.aC7.size<=64
 text:o.text.size<=4096
theorem Nh(o:Op)(V:kG o)(M:RO o)(w:World):Calls prog 67 #[fA o] w (CK (320+o.text.size) w):=by
 obtain⟨W0,P⟩:=xE (w.alloc (.cells (bZ o) 46));have ai:Below w.heap.size w W0:=by rw[P];exact aB _ _
 have B:Hid (W0.heap[w.heap.size]? =some (.cells (bZ o) 46 (0,0))):=aA (by rw[P];exact aK _ _ _ rfl);obtain⟨a6,G,Z,T⟩:=dD ai M V (SR none 0 o.aCJ V.1 [] W0 qe (by intro h;exact absurd rfl h));rw[show ([]:lU).length=0 from rfl] at T;have bl:=aA P;unfold fA bZ at *;clear P ai V M;obtain⟨⟨f,g,n,p,q,r,t,v,x,y,j,m⟩,_⟩:=bL B.o;have C:=aD B.o;go_enter func67,ntmps67;go_upto_region 1 with (fail)
 rw[<-bl.o];go_wp2_with fail;refine T.o.mono ?_;rintro e w1 ⟨l1,A1,c1,rfl,al,ao,_,U⟩;obtain⟨J,Q⟩:=xE (w1.alloc (.cells #[.string o.aCZ,.string o.aCQ,.string o.aC4,.string o.to_] 9));have O:Below w1.heap.size w1 J:=by rw[Q];exact aB _ _
 have S:Hid (J.heap[w1.heap.size]? =some (.cells #[.string o.aCZ,.string o.aCQ,.string o.aC4,.string o.to_] 9 (0,0))):=aA (by rw[Q];exact aK _ _ _ rfl);have bc:=aA (ao.on O);have X:=qB a6 (aC U O);replace B:=qK B U;obtain⟨ba,bm,a8⟩:=aY al Q O;clear Q O U ao al f g n p q r t v x y j m C T;obtain⟨⟨f,g,n,p,q,r,t,v,x,y,j,m⟩,_⟩:=bL B.o;have C:=aD B.o;have bk:Hid (∀(k:Nat) (hk:k<4) (wr:World),Below J.heap.size J wr->∃s:bY,s.size<=16/\wr.cell? ⟨w1.heap.size,0+k,none⟩=some (.string s)):=aA (fun k hk wr hb=>by
  obtain⟨⟨S0,S1,S2,S3⟩,_⟩:=nK (aE S.o hb);have:k=0\/k=1\/k=2\/k=3:=qo
  rcases this with rfl|rfl|rfl|rfl
  .exact⟨_,G.o.aCZ,S0⟩
  .exact⟨_,G.o.aCQ,S1⟩
  .exact⟨_,G.o.aC4,S2⟩
  .exact⟨_,G.o.to_,S3⟩)
 go_wp2;rw[<-bm.o];replace B:=qK B a8.o;clear f g n p q r t v x y j m C;go_loopw [3,5,19] (fun b s i wr=>∃(k:Nat) (l:lU) (A:oD) (c:Nat),k<=4/\i=.int .i64 k/\b=.slice A l.length c/\Hid (l.length<=10+k * 26)/\Hid (Sl wr wr.heap.size A (bF l))/\Hid (Below J.heap.size J wr)) (fun _ _ i _=>4 - (intOf i).toNat)
 case atStart=>exact⟨0,l1,A1,c1,qo,rfl,rfl,aA (qA ba.o),bc,aA (Below.refl _ _)⟩
 case round=>
  obtain⟨k,l,A,c,hk,rfl,rfl,N,af,z⟩:=hrel;by_cases bt:k<4
  .have b2:(k:Int)<4:=qo;obtain⟨s,M,hc⟩:=bk.o k bt wr z.o;have br:=hc;rw[Nat.zero_add] at br;have HT:=aA (CL A c s 16 M qe l wr (qA N.o) af.o);clear M;go_wp2_with fail;refine HT.o.mono ?_;rintro e w2 ⟨l2,A2,c2,rfl,F,D,_,a⟩;obtain⟨bb,bd,a7⟩:=aY F D (aC z.o a);clear F D a;go_wp2;go_round
   case rel=>exact⟨k+1,l2,A2,c2,qo,by go_num,rfl,aA (qD bb.o N.o),bd,a7⟩
   case measure=>simp[intOf];omega
  .obtain rfl:k=4:=qo;replace B:=qK B z.o;obtain⟨⟨f,g,n,p,q,r,t,v,x,y,j,m⟩,_⟩:=bL B.o;have C:=aD B.o;go_upto_region 7 with (fail)
   have H:Below wr.heap.size wr wr.drew:=(Below.refl _ _).drew;have L:=aA (af.o.on H);replace z:=qB z H;replace B:=qK B H;clear H;refine cC 7 [(0,false),(1,false),(2,false),(4,false),(5,false),(3,true),(6,true)] [(7,true)] (fun w'=>w'.heap[w.heap.size]? =some (.cells (rE o) 46 (0,0))) (by kernel_rfl) (by kernel_rfl) B.o ?_;simp only[List.cons_append,List.nil_append]
   repeat (refine dG rfl (fun K I=> ?_);unfold rd;go_simp;refine I _ (fun bx h1=> ?_) ?_;(· clear I K f g n p q r t v x y j m C;obtain⟨⟨f,g,n,p,q,r,t,v,x,y,j,m⟩,_⟩:=bL h1;have C:=aD h1;unfold rd;go_simp);clear I K)
   refine bJ rfl (fun E d=> ?_);unfold mv;go_simp;refine(SU A c o.val Z.o.2.2.2.2.2.1 64 G.o.val qe l wr.drew (qA N.o) L.o).mono ?_;rintro e bz ⟨ar,ax,bn,rfl,F,D,_,a⟩;have aa:Hid (ar.length<=10+4 * 26+84):=aA (qA N.o);have be:=aA D;replace z:=qB z a;replace B:=qK B a;refine d _ _ (fun _=>B.o) ?_;clear d E F D a f g n p q r t v x y j m C L;obtain⟨⟨f,g,n,p,q,r,t,v,x,y,j,m⟩,_⟩:=bL B.o;have C:=aD B.o;refine bJ rfl (fun E d=> ?_);unfold mv;go_simp;refine(SR ax bn o.aC6 Z.o.2.2.2.2.2.2.1 ar bz (qA aa.o) be.o).mono ?_;rintro e R ⟨au,ay,bo,rfl,F,D,_,a⟩;have ab:Hid (au.length<=10+4 * 26+94):=aA (qA aa.o);have bf:=aA D;replace z:=qB z a;replace B:=qK B a;refine d _ _ (fun _=>B.o) ?_;clear d E F D a f g n p q r t v x y j m C;obtain⟨⟨f,g,n,p,q,r,t,v,x,y,j,m⟩,_⟩:=bL B.o;have C:=aD B.o;refine bJ rfl (fun E d=> ?_);unfold mv;go_simp;refine d _ _ (fun h=>absurd h qe) ?_;clear d E;unfold cI;go_upto_region 8 with (fail)
   have H:Below R.heap.size R R.drew:=(Below.refl _ _).drew;have L:=aA (bf.o.on H);replace z:=qB z H;replace B:=qK B H;clear H;refine cC 7 [(0,false),(1,false),(2,false),(4,false),(5,false),(3,true),(6,true)] [(7,true)] (fun w'=>w'.heap[w.heap.size]? =some (.cells (rE o) 46 (0,0))) (by kernel_rfl) (by kernel_rfl) B.o ?_;simp only[List.cons_append,List.nil_append]
   repeat (refine dG rfl (fun K I=> ?_);unfold rd;go_simp;refine I _ (fun bx h1=> ?_) ?_;(· clear I K f g n p q r t v x y j m C;obtain⟨⟨f,g,n,p,q,r,t,v,x,y,j,m⟩,_⟩:=bL h1;have C:=aD h1;unfold rd;go_simp);clear I K)
   refine bJ rfl (fun E d=> ?_);unfold mv;go_simp;refine(CL ay bo o.text o.text.size (lR _) (qA G.o.text) au R.drew (qA ab.o) L.o).mono ?_;rintro e b0 ⟨av,az,bp,rfl,F,D,_,a⟩;have ad:Hid (av.length<=10+4 * 26+104+o.text.size):=aA (qA ab.o);have bg:=aA D;replace z:=qB z a;replace B:=qK B a;refine d _ _ (fun _=>B.o) ?_;clear d E F D a f g n p q r t v x y j m C L;obtain⟨⟨f,g,n,p,q,r,t,v,x,y,j,m⟩,_⟩:=bL B.o;have C:=aD B.o;refine bJ rfl (fun E d=> ?_);unfold mv;go_simp;refine(CL az bp o.aC7 64 G.o.aC7 qe av b0 (qD ad.o G.o.text) bg.o).mono ?_;rintro e b1 ⟨aw,a1,bq,rfl,F,D,_,a⟩;have ae:Hid (aw.length<=10+4 * 26+104+74+o.text.size):=aA (qA ad.o);have bh:=aA D;replace z:=qB z a;replace B:=qK B a;refine d _ _ (fun _=>B.o) ?_;clear d E F D a f g n p q r t v x y j m C;obtain⟨⟨f,g,n,p,q,r,t,v,x,y,j,m⟩,_⟩:=bL B.o;have C:=aD B.o;refine bJ rfl (fun E d=> ?_);unfold mv;go_simp;refine d _ _ (fun h=>absurd h qe) ?_;clear d E;unfold cI;go_wp2_with fail;refine(WZ o.aDc b1).mono ?_;rintro e w9 ⟨rfl,ak⟩;have bj:=aA (bh.o.on ak);have Y:=qB z ak;have ag:=SU a1 bq (cH o.aDc) (by unfold cH cS bK;dsimp only;split<;>exact⟨qe,qe,qe⟩) 0 (lR _) qe aw w9 (qD ae.o G.o.text) bj.o;obtain⟨tv,bu⟩:∃tv,cH o.aDc=tv:=⟨_,rfl⟩;rw[bu] at ag ⊢;unfold dB;go_wp2_with fail;refine ag.mono ?_;rintro e bw ⟨l10,W,ah,rfl,bs,aq,an,aj⟩;have HE:Hid (CK (320+o.text.size) w (.returned (.slice W l10.length ah)) bw):=aA ⟨l10,W,ah,rfl,qA ae.o,aq,sM an (lT X.o.size (lT Y.o.size (lR _))),aC (aC X.o Y.o) aj⟩
   clear bs aq an aj;go_wp2;go_ret;exact HE.o
theorem XA(p:BitVec 64)(o:Op)(T:kG o)(z:RO o)(w:World):Calls prog 30 #[.int .u64 (n64 p),fA o] w (fun e w'=>CK (328+o.text.size) w e w'/\∀l A c,e=.returned (.slice A (l:lU).length c)->8<=l.length):=by
 obtain⟨W0,q⟩:=xE (w.alloc (.cells (bZ o) 46));have N:Below w.heap.size w W0:=by rw[q];exact aB _ _
 have B:Hid (W0.heap[w.heap.size]? =some (.cells (bZ o) 46 (0,0))):=aA (by rw[q];exact aK _ _ _ rfl);have C:=aA N;have v:=Nh o T z;have H:=aA z.text;obtain⟨i0,R,X,Y,Z⟩:=info_parts uU;obtain⟨J,K,L,M,al⟩:=gC R X Y Z q;unfold fA bZ at *;have v:=aA v;clear q N T z R X Y Z;go_enter func30,ntmps30;go_upto_region 1 with (fail)
 rw[<-al.o];go_wp2;go_loopw [5,0,6] (fun b h i wr=>∃(k:Nat) (l:lU) (u:Nat),k<=8/\Hid (l.length=k)/\i=.int .i64 k/\h=.int .u64 (u:Int)/\Hid (RW u)/\Hid (wr.ownsRow W0.heap.size 5 1 b k (bF l))/\Hid (Below W0.heap.size W0 wr)) (fun _ _ i _=>8 - (intOf i).toNat)
 case atStart=>exact⟨0,[],p.toNat,qo,aA rfl,rfl,rfl,aA p.isLt,aA (World.ownsRow_nil _ _ _ _),aA (Below.refl _ _)⟩
 case round=>
  obtain⟨k,l,u,hk,D,rfl,rfl,HU,F,n⟩:=hrel;by_cases ao:k<8
  .have an:(k:Int)<8:=qo;have aq:(0:Int)<=(u:Int):=qo;have O:(((UInt8.ofNat (u % 256)).toNat:Nat):Int)=(u:Int) % 256:=by rw[mA (u % 256) qo];omega
   have W:Hid (bF [UInt8.ofNat (u % 256)]=[.int .u8 ((u:Int) % 256)]):=aA (by show[Value.int .u8 ((UInt8.ofNat (u % 256)).toNat:Int)]=_;rw[O]);have E:=aA (tP [UInt8.ofNat (u % 256)]);have I:Hid ((bF [UInt8.ofNat (u % 256)]).length=1 * 1):=aA rfl;have ae:Hid ((u:Int) / 256=((u / 256:Nat):Int)):=aA qo;have aj:Hid (RW (u / 256)):=aA (by have:=HU.o;unfold RW at *;omega);generalize U:bF [UInt8.ofNat (u % 256)]=Q at W E I;have HQ:=aA U;have y:=F.o.alloc (.cells #[.int .u8 ((u:Int) % 256)] 5);have P:Sl (wr.alloc (.cells #[.int .u8 ((u:Int) % 256)] 5)) (wr.heap.size+1) (some ⟨wr.heap.size,0,none⟩) Q:=by rw[W.o];exact Sl.laid wr _ _ _ _ rfl
   have a:=n.o.alloc n.o.size (.cells #[.int .u8 ((u:Int) % 256)] 5);clear O U;go_wp2_with (at_builtin;refine lJ _ rfl (.tmp 8) (.tmp 11) 80 rfl W0.heap.size 5 i0 (.int .u8 0) 1 1 underlying80 J.o K.o L.o M.o rfl qe _ k _ rfl y (wr.heap.size+1) (some ⟨wr.heap.size,0,none⟩) 1 1 Q rfl I.o P E.o (by unfold maxLen;omega) qo a.size ?_;intro v3 r d m x;have j:Below W0.heap.size W0 r:=dU y a m (lR _) a.size;have ah:=aA d;have ad:=aA j;clear y P a d m x j)
   go_round
   case rel=>exact⟨k+1,l++[UInt8.ofNat (u % 256)],u / 256,qo,aA (by rw[aL,D.o];rfl),by go_num,by rw[<-ae.o],aj,aA (by rw[iU,HQ.o];exact ah.o),ad⟩
   case measure=>simp[intOf];omega
  .obtain rfl:k=8:=qo;replace B:=qK B n.o;obtain⟨⟨B0,B1,B2,B3,B4,B5,B6,B7,B8,B9,aa,ab⟩,_⟩:=bL B.o;have zB:=aD B.o;go_wp2_with fail;refine(v.o wr).mono ?_;rintro e w2 ⟨f,A2,c2,rfl,S,V,_,a⟩;have G:=aA (lM F.o (aJ (ok:=fun _=>True) a) (fun _ _=>trivial));obtain⟨s,ai,t,ag⟩:=dD (aC n.o a) V S (tP f);have ak:Hid ((bF f).length=f.length * 1):=aA (by rw[uI,Nat.mul_one]);clear S V a B0 B1 B2 B3 B4 B5 B6 B7 B8 B9 aa ab zB;go_wp2_with (at_builtin;refine lJ _ rfl (.tmp 16) (.tmp 18) 80 rfl W0.heap.size 5 i0 (.int .u8 0) 1 1 underlying80 J.o K.o L.o M.o rfl qe _ 8 _ rfl G.o w2.heap.size A2 f.length c2 (bF f) rfl ak.o ai.o ag.o (by have:=t.o;have:=H.o;unfold maxLen;omega) (qD t.o H.o) s.o.size ?_;intro v3 r d m x)
   have j:Below w.heap.size w r:=aC C.o (dU G.o s.o m (lR _) s.o.size);have af:Hid (∀(l:lU) A c,Ending.returned v3=.returned (.slice A l.length c)->8<=l.length):=aA (fun l A c e=>by
    injection e with e;have h:=d.2;rw[e] at h
    rcases h with ⟨h1,h2⟩|⟨g,cap,cur,h1,_⟩
    .omega
    .injection h1 with _ h1 _;omega)
   have HE:Hid (CK (328+o.text.size) w (.returned v3) r):=by
    have h9:(l++f).length=8+f.length:=by rw[aL,D.o]
    rw[<-iU,<-h9] at d;exact aA (EP ⟨v3,rfl,sM d C.o.size,j⟩ (by rw[h9];have:=t.o;omega))
   clear d m x j;go_wp2;go_ret;exact⟨HE.o,af.o⟩
end
namespace Crc
def aCd:BitVec 32:=0xedb88320#32
def aCe:BitVec 32:=4294967295#32
def step(s:BitVec 32):BitVec 32:=if s.getLsbD 0 then (s >>> 1) ^^^ aCd else s >>> 1
def zO:Nat->BitVec 32->BitVec 32
 |0,s=>s
 |n+1,s=>zO n (step s)
def upd(s:BitVec 32)(c:BitVec 8):BitVec 32:=zO 8 (s ^^^ c.setWidth 32)
def ZG(s:BitVec 32)(l:List (BitVec 8)):BitVec 32:=l.foldl upd s
def sum(l:List (BitVec 8)):BitVec 32:= ~~~ (ZG aCe l)
theorem aCA:sum []=0#32:=qe
theorem aAA(m:Nat):∀n s,zO (m+n) s=zO n (zO m s):=by
 induction m with
 |zero=>intro n s;simp[zO]
 |succ m a=>intro n s;rw[Nat.succ_add];simp only[zO];exact a n _
end Crc
theorem SV(s:BitVec 32)(l:List (BitVec 8))(k:Nat)(a:k<l.length):Crc.ZG s (l.take (k+1))=Crc.upd (Crc.ZG s (l.take k)) l[k]:=by
 rw[List.take_add_one,gE a];unfold Crc.ZG;rw[List.foldl_append];rfl
theorem Gp(n:Nat)(s:BitVec 32):Crc.zO (n+1) s=Crc.step (Crc.zO n s):=by
 rw[Crc.aAA];rfl
theorem Ni(s:BitVec 32)(l:lU)(k:Nat)(a:k<l.length):
 Crc.ZG s ((l.map (·.toBitVec)).take (k+1))=Crc.upd (Crc.ZG s ((l.map (·.toBitVec)).take k)) l[k].toBitVec:=by
 rw[SV _ _ _ (by simpa using a)];simp
theorem Tw(a:oD)(cap n:Nat)(l:lU)(y:l.length=n)(w:World)(B:Nat)(C:l.length<=140737488351232)(r:Sl w B a (bF l)):
 Calls prog 127 #[.slice a n cap] w fun e w'=>e=.returned (.int .u32 (nB (Crc.sum (l.map (·.toBitVec)))))/\w=w':=by
 subst y;go_enter func127,ntmps127;go_wp2;go_loop [3,9] (fun s i=>∃k:Nat,k<=l.length/\i=.int .i64 k/\s=.int .u32 (nB (Crc.ZG Crc.aCe ((l.map (·.toBitVec)).take k)))) (fun _ i=>l.length - (intOf i).toNat)
 case atStart=>exact⟨0,Nat.zero_le _,rfl,rfl⟩
 case round=>
  obtain⟨k,A,rfl,rfl⟩:=hrel;by_cases q:k<l.length
  .obtain⟨b,off,rfl,_,f⟩:=r.byte q;have o:=aA (Ni Crc.aCe l k q);generalize Crc.ZG Crc.aCe ((l.map (·.toBitVec)).take k)=s at o ⊢;generalize l[k]=c at o f;have p:=Me c;have g:=YS;rw[p] at f;have v:=Fa (c.toBitVec.setWidth 32);have x:nB (c.toBitVec.setWidth 32)<256:=by rw[<-p];have:=c.toNat_lt;omega
   clear r p;go_wp2;go_loop [3,17] (fun t i=>∃j:Nat,j<=8/\i=.int .i64 j/\t=.int .u32 (nB (Crc.zO j (s ^^^ c.toBitVec.setWidth 32)))) (fun _ i=>8 - (intOf i).toNat)
   case atStart=>exact⟨0,qo,rfl,rfl⟩
   case round=>
    obtain⟨j,hj,rfl,rfl⟩:=hrel;by_cases z:j<8
    .have m:=aA (Gp j (s ^^^ c.toBitVec.setWidth 32));generalize Crc.zO j (s ^^^ c.toBitVec.setWidth 32)=t at m ⊢;have h3:bits .xor .u32 (nB (t >>> 1)) 3988292384=nB (t >>> 1 ^^^ Crc.aCd):=YS _ Crc.aCd;have h1:=Mg t;have h4:=Fa t;clear g f v x
     cases d:t.getLsbD 0
     .rw[d] at h1;simp only[Bool.false_eq_true,if_false] at h1;go_wp2;go_round
      case rel=>exact⟨j+1,qo,by go_num,by rw[m.o,Crc.step,d,RT];rfl⟩
      case measure=>simp[intOf];omega
     .rw[d] at h1;simp only[if_true] at h1;go_wp2;go_round
      case rel=>exact⟨j+1,qo,by go_num,by rw[m.o,Crc.step,d,RT,h3];rfl⟩
      case measure=>simp[intOf];omega
    .obtain rfl:j=8:=qo;clear g f;go_wp2;go_round
     case rel=>exact⟨k+1,qo,by go_num,by rw[o.o];rfl⟩
     case measure=>simp[intOf];omega
  .have g:=Tb (Crc.ZG Crc.aCe ((l.map (·.toBitVec)).take k));obtain rfl:k=l.length:=qo;have e:(l.map (·.toBitVec)).take l.length=l.map (·.toBitVec):=List.take_of_length_le qs;rw[e] at g ⊢;go_wp2;go_ret;exact⟨rfl,rfl⟩
section
open Pv
def SW:Rep UInt8:=mK (fun c=>[.int .u8 (c.toNat:Int)]) (fun _=>True)
theorem SX:Firm SW 1:=gD (fun _=>rfl) (fun x v h=>by rw[List.mem_singleton.1 h];rfl)
theorem SY:∀{l:lU} {cs:List Value},aX (fun r x=>r=[.int .u8 ((x:UInt8).toNat:Int)]/\True) cs l->cs=bF l
 | [],cs,h=>h
 |x::l,cs,⟨r,t,e,hr,ht⟩=>by rw[e,hr.1,SY ht];rfl
theorem FO:∀(l:lU),aX (fun r x=>r=[.int .u8 ((x:UInt8).toNat:Int)]/\True) (bF l) l
 | []=>rfl
 |x::l=>⟨_,_,rfl,⟨rfl,trivial⟩,FO l⟩
theorem Xh{w:World}{ok:nP}{v:Value}{l:lU}(h:aH SW w ok v l):∃a c,v=.slice a l.length c/\iY w ok a (bF l)/\l.length<=1000000:=by
 obtain⟨a,c,cs,e,h1,h2,h3⟩:=h;rw[SY h2] at h1;exact⟨a,c,e,h1,h3⟩
theorem Xi{w:World}{ok:nP}{a:oD}{c:Nat}{l:lU}(h:iY w ok a (bF l))(b:l.length<=1000000):aH SW w ok (.slice a l.length c) l:=⟨a,c,bF l,rfl,h,FO l,b⟩
theorem Gq(n:Nat)(h0:0<n)(q:n<=2000000)(w:World):Calls prog 176 #[.slice none 0 0,.int .i64 n] w (fun e w'=>∃v,e=.returned v/\w'.ownsRow w.heap.size 5 1 v 0 []/\Below w.heap.size w w'):=by
 obtain⟨i0,f,i,m,j⟩:=info_parts uU;obtain⟨G,a⟩:=xE (grownCap w n 0 5);obtain⟨c,b⟩:=xE (w.drew.alloc (.cells (Builtin.zeroCells (Value.int .u8 0).cells n++Builtin.zeroCells (Value.int .u8 0).cells (G - n)) 5));have g:∀ty,(Builtin.append_ #[80,3] ty #[.slice none 0 0,.int .i64 n]).run prog w=.ok (.slice (some ⟨w.heap.size,0,none⟩) n G) c:=fun ty=>by
  rw[b,a];exact Lib.run_append_nil_zeros w 80 3 ty 5 i0 _ .i64 .i64 underlying80 (by kernel_rfl) f i n h0 qo qo (by rw[j];omega)
 have p:n<=G:=by rw[a];exact grownCap_ge w _ _ _
 have l:G<=maxLen:=by rw[a];exact grownCap_le_maxLen w n 0 _ (by unfold maxLen;omega)
 have d:Hid (c.ownsRow w.heap.size 5 1 (.slice (some ⟨w.heap.size,0,none⟩) 0 G) 0 []/\Below w.heap.size w c):=aA (by
  refine⟨⟨rfl,.inr ⟨w.heap.size,G,_,rfl,lR _,by rw[b];exact heap_alloc_new w.drew _,Nat.zero_le _,l,?_,rfl⟩⟩,?_⟩
  .simp only[Builtin.zeroCells,Array.size_append,Array.size_map,Array.size_range];simp[Value.cells];omega
  .have h:=aB w.drew (.cells (Builtin.zeroCells (Value.int .u8 0).cells n++Builtin.zeroCells (Value.int .u8 0).cells (G - n)) 5);rw[b];exact⟨h.os,h.tape,h.output,h.size,h.block⟩)
 have r:¬((n:Int)<0):=qo;have s:(0:Int)<(n:Int):=qo;have o:(0:Nat)<=G:=Nat.zero_le _;have k:=aA g;clear b a f i m j g;go_enter func176,ntmps176;go_wp2_with (at_builtin;refine Lib.wpList_append_run _ rfl _ _ _ _ rfl _ _ rfl rfl _ _ (k.o _) ?_)
 go_ret;exact⟨_,rfl,d.o.1,d.o.2⟩
def MH(n:Nat)(w:World)(e:Ending)(w':World):Prop:=∃(l:lU) (A:oD) (c:Nat),e=.returned (.slice A l.length c)/\l.length=n/\Sl w' w'.heap.size A (bF l)/\w'.ownsRow w.heap.size 5 1 (.slice A l.length c) l.length (bF l)/\Below w.heap.size w w'
theorem ZH{w:World}{l:lU}{n:Nat}{e:Ending}{w':World}(h:oM w l e w')(a:l.length=n):MH n w e w':=by
 obtain⟨A,c,h1,h2,h3,h4⟩:=qE h;exact⟨l,A,c,h1,a,h2,h3,h4⟩
def tX(L:List (List UInt8))(k:Nat):Nat:=((L.take k).map List.length).sum
theorem SZ{L:List (List UInt8)}{k:Nat}(a:k<L.length):tX L (k+1)=tX L k+L[k].length:=by
 unfold tX;rw[List.take_succ_eq_append_getElem a,List.map_append,List.sum_append];simp
theorem Xj(L:List (List UInt8))(k:Nat):tX L k<=tX L L.length:=by
 unfold tX;rw[List.take_length]
 conv=>rhs;rw[<-List.take_append_drop k L,List.map_append,List.sum_append]
 omega
theorem JU{ok:nP}(v:Value)(L:List (List UInt8))(w:World)(h:aH (rows SW) w ok v L)(n:Nat)(O:tX L L.length=n)(h0:0<n)(hm:n<=2000000):Calls prog 125 #[v] w (MH n w):=by
 obtain⟨i0,N,S,T,U⟩:=info_parts uU;obtain⟨Hi,ad,ae,af⟩:=dD N S T U;obtain⟨a,c,rfl,al⟩:=h.slice;obtain⟨F,p,G,D,E⟩:=gC h O (Xj L) (Gq n h0 hm w) hm;clear N S T U h O h0 hm;go_enter func125,ntmps125;go_wp2;go_loop [3,5,11] (fun z s i=>∃(k:Nat),k<=L.length/\i=.int .i64 k/\z=.int .i64 (tX L k:Nat)) (fun _ _ i=>L.length - (intOf i).toNat)
 case atStart=>exact⟨0,Nat.zero_le _,rfl,rfl⟩
 case round=>
  obtain⟨k,hk,rfl,rfl⟩:=hrel;by_cases j:k<L.length
  .have ai:(k:Int)<(L.length:Int):=qo;obtain⟨b,off,r,rfl,_,ah,⟨vk,rfl,o⟩,g⟩:=aH.at (rG SX) F.o j qe;obtain⟨H,I,rfl,aj⟩:=o.slice;have C:=g 0 _ rfl;rw[Nat.add_zero,Nat.mul_one] at C;have f:=aA (SZ j);have B:=G.o (k+1);have q:Hid (tX L k+L[k].length<=2000000):=aA (by rw[<-f.o];have:=p.o;have:=E.o;omega);have an:(0:Int)<=(tX L k:Nat)+(L[k].length:Nat):=qo;have ao:¬(((tX L k:Nat):Int)+(L[k].length:Nat)<0):=qo;have aq:IntKind.i64.wrap (((tX L k:Nat):Int)+(L[k].length:Nat))=((tX L k:Nat):Int)+(L[k].length:Nat):=IntWalk.i64_in _ (qA q.o);generalize L[k].length=m at *;generalize tX L k=t at *;clear g o B;go_wp2;go_round
   case rel=>exact⟨k+1,qo,by go_num,by rw[f.o];go_num⟩
   case measure=>simp[intOf];omega
  .obtain rfl:k=L.length:=qo;rw[p.o];go_wp2_with fail;refine D.o.mono ?_;rintro e w1 ⟨v1,rfl,P,J⟩;have Y:=aA P;have V:=aA J;clear P J D;go_wp2;go_loopw [6,8,27] (fun z s i wr=>∃(k:Nat) (l:lU),k<=L.length/\i=.int .i64 k/\Hid (l.length=tX L k)/\Hid (wr.ownsRow w.heap.size 5 1 z l.length (bF l))/\Hid (Below w.heap.size w wr)) (fun _ _ i _=>L.length - (intOf i).toNat)
   case atStart=>exact⟨0,[],Nat.zero_le _,rfl,aA rfl,Y,V⟩
   case round=>
    obtain⟨k,l,hk,rfl,y,A,d⟩:=hrel;by_cases j:k<L.length
    .have ai:(k:Int)<(L.length:Int):=qo;obtain⟨b,off,r,rfl,_,ah,⟨vk,rfl,o⟩,g⟩:=aH.at (rG SX) (aH.on (rG SX) F.o d.o) j qe;obtain⟨H,I,rfl,R,aj⟩:=Xh o;have C:=g 0 _ rfl;rw[Nat.add_zero,Nat.mul_one] at C;have f:=aA (SZ j);have B:=G.o (k+1);generalize L[k]=x at *;have q:Hid (l.length+x.length<=2000000):=aA (by rw[y.o,<-f.o];have:=p.o;have:=E.o;omega);have aa:=aA R.lt;have HV:Hid ((bF x).length=x.length * 1):=aA (by rw[uI,Nat.mul_one]);have ab:=aA (tP x);clear g o B R;go_wp2_with (at_builtin;refine lJ _ rfl (.tmp 31) (.tmp 32) 80 rfl w.heap.size 5 i0 (.int .u8 0) 1 1 underlying80 Hi.o ad.o ae.o af.o rfl qe _ l.length _ rfl A.o wr.heap.size H x.length I (bF x) rfl HV.o aa.o ab.o (by have:=q.o;unfold maxLen;omega) (qA q.o) d.o.size ?_;intro v3 w3 Q M ag;have K:Below w.heap.size w w3:=dU A.o d.o M (lR _) d.o.size;have Z:=aA Q;have W:=aA K;clear Q M ag K)
     go_round
     case rel=>exact⟨k+1,l++x,qo,by go_num,aA (by rw[aL,y.o,f.o]),aA (by rw[aL,iU];exact Z.o),W⟩
     case measure=>simp[intOf];omega
    .obtain rfl:k=L.length:=qo;have X:Hid (MH n w (.returned u6) wr):=aA (ZH ⟨_,rfl,A.o,d.o⟩ (y.o.trans p.o));go_wp2;go_ret;exact X.o
theorem TA{W:World}{g c:Nat}{cs:List Value}{t:TypeId}{L:List (List UInt8)}(b:W.heap[g]? =some (.cells cs.toArray t (0,0)))(a:aX (rows SW W (fun _=>True)) cs L)(e:L.length<=1000):aH (rows SW) W (fun _=>True) (.slice (some ⟨g,0,none⟩) L.length c) L:=
 ⟨_,_,cs,rfl,fun _=>⟨g,0,rfl,trivial,fun i x d=>by rw[Nat.zero_add];simp only[World.cell?,b];simpa using d⟩,a,qo⟩
theorem CM{W:World}{a:oD}{c:Nat}{l:lU}(d:Sl W W.heap.size a (bF l))(b:l.length<=1000000):rows SW W (fun _=>True) [.slice a l.length c] l:=⟨_,rfl,Xi ((iY.aDW d).more fun _ _=>trivial) b⟩
theorem Nj(a:oD)(c:Nat)(l:lU)(w:World)(d:l.length<=1000000)(b:Sl w w.heap.size a (bF l)):Calls prog 127 #[.slice a l.length c] w (fun e w'=>∃h:BitVec 32,e=.returned (.int .u32 (nB h))/\w=w'):=
 (Tw a c l.length l rfl w w.heap.size qo b).mono fun e w' h=>⟨_,h⟩
theorem TB(h:BitVec 32)(w:World):Calls prog 126 #[.int .u32 (nB h)] w (MH 4 w):=by
 go_enter func126,ntmps126;go_wp2;go_ret;have hu:nB h=(h.toNat:Int):=rfl;rw[hu];generalize h.toNat=u;have e:(#[.int .u8 ((u:Int) % 256),.int .u8 ((u:Int) / 256 % 256),.int .u8 ((u:Int) / 65536 % 256),.int .u8 ((u:Int) / 16777216 % 256)]:Array Value).toList=bF [UInt8.ofNat (u % 256),UInt8.ofNat (u / 256 % 256),UInt8.ofNat (u / 65536 % 256),UInt8.ofNat (u / 16777216 % 256)]:=by
  show _=[Value.int .u8 ((UInt8.ofNat (u % 256)).toNat:Int),.int .u8 ((UInt8.ofNat (u / 256 % 256)).toNat:Int),.int .u8 ((UInt8.ofNat (u / 65536 % 256)).toNat:Int),.int .u8 ((UInt8.ofNat (u / 16777216 % 256)).toNat:Int)];rw[mA _ qo,mA _ qo,mA _ qo,mA _ qo];simp only[Int.natCast_emod,Int.natCast_ediv];rfl
 exact ZH (l:=[UInt8.ofNat (u % 256),UInt8.ofNat (u / 256 % 256),UInt8.ofNat (u / 65536 % 256),UInt8.ofNat (u / 16777216 % 256)]) ⟨.slice (some ⟨w.heap.size,0,none⟩) 4 4,rfl,⟨rfl,.inr ⟨w.heap.size,4,_,rfl,lR _,aK _ _ _ rfl,lR _,by unfold maxLen;omega,rfl,e⟩⟩,aB _ _⟩ rfl
theorem Gr(a:oD)(c:Nat)(l:lU)(w:World)(C:l.length<=10000)(H:Sl w w.heap.size a (bF l)):Calls prog 69 #[.slice a l.length c] w (MH (8+l.length) w):=by
 have x:=aA H;have o:=aA C;have R:IntKind.u32.wrap (l.length:Int)=nB (BitVec.ofNat 32 l.length):=by
  show _=((BitVec.ofNat 32 l.length).toNat:Int);rw[BitVec.toNat_ofNat,IntKind.wrap_u32];omega
 have s:=aA (TB (BitVec.ofNat 32 l.length) w);generalize BitVec.ofNat 32 l.length=h1 at *;clear H C;go_enter func69,ntmps69;go_wp2_with fail;refine s.o.mono ?_;rintro e w1 ⟨f,i,c1,rfl,D,I,_,y⟩;obtain⟨t,N,k⟩:=aY D I y;clear D I y s;go_wp2_with fail;refine(Nj a c l w1 (qA o.o) (x.o.on k.o)).mono ?_;rintro e S ⟨h2,rfl,rfl⟩;go_wp2_with fail;refine(TB h2 w1).mono ?_;rintro e w2 ⟨g,j,c2,rfl,E,J,_,z⟩;obtain⟨v,O,m⟩:=aY E J z;clear E J z;obtain⟨p,d⟩:=xE (w2.alloc (.cells #[.slice i f.length c1,.slice j g.length c2,.slice a l.length c] 80));have b:Below w2.heap.size w2 p:=by rw[d];exact aB _ _
 have B:p.heap[w2.heap.size]? =some (.cells #[.slice i f.length c1,.slice j g.length c2,.slice a l.length c] 80 (0,0)):=by rw[d];exact aK _ _ _ rfl
 have n:=JU _ [f,g,l] p (TA (cs:=[.slice i f.length c1,.slice j g.length c2,.slice a l.length c]) (c:=3) B ⟨[_],_,rfl,CM ((N.o.on m.o).on b) (qA t.o),⟨[_],_,rfl,CM (O.o.on b) (qA v.o),⟨[_],[],rfl,CM (((x.o.on k.o).on m.o).on b) (qA o.o),rfl⟩⟩⟩ (by show 3<=1000;omega)) (8+l.length) (by simp only[tX,List.length_cons,List.length_nil,List.take_succ_cons,List.take_zero,List.map_cons,List.map_nil,List.sum_cons,List.sum_nil,t.o,v.o];omega) qo (qA o.o);obtain⟨n,r,P⟩:=aY n (aC (aC k.o m.o) b) d;clear d b B;go_wp2_with fail;rw[<-P.o];refine n.o.mono ?_;rintro e Q ⟨L,q,c4,rfl,F,K,G,A⟩;have M:Hid (MH (8+l.length) w (.returned (.slice q L.length c4)) Q):=aA ⟨L,q,c4,rfl,F,K,sM G r.o.size,aC r.o A⟩;clear F K G A;go_wp2;go_ret;exact M.o
end
section
open Pv
abbrev oV(Q:Nat)(a:oD)(m b:Nat)(sy:Int):Obj:= .cells #[.int .i64 (Q:Int),.slice a m b,.int .i64 sy,.int .i64 0,.bool false] 82
theorem Gs(D Q m b:Nat)(a:oD)(sy:Int)(w:World)(c:Q<=2000000)(hm:m<=Q)(h:w.heap[D]? =some (oV Q a m b sy)):Calls prog 124 #[.pointer (some ⟨D,0,none⟩)] w (aP (.int .i64 ((Q:Int) - (m:Int))) w):=by
 obtain⟨⟨d0,d1,d2,d3,d4⟩,_⟩:=dJ h;have e:=aD h;have d:IntKind.i64.wrap ((Q:Int) - (m:Int))=(Q:Int) - (m:Int):=IntWalk.i64_in _ qo;go_enter func124,ntmps124;go_upto_region 1 with (fail)
 go_quiet (fail)
 go_wp2;go_ret;exact⟨rfl,fI (Below.refl _ _) ⟨_,rfl⟩⟩
theorem OA(D Q m b:Nat)(a:oD)(sy:Int)(w:World)(h:w.heap[D]? =some (oV Q a m b sy)):Calls prog 77 #[.pointer (some ⟨D,0,none⟩)] w (fun e w'=>e=.returned (.bool false)/\w'=w):=by
 obtain⟨⟨d0,d1,d2,d3,d4⟩,_⟩:=dJ h;have c:=aD h;go_enter func77,ntmps77;go_wp2;go_ret;exact⟨rfl,rfl⟩
theorem OC(D Q m c:Nat)(a:oD)(sy:Int)(w:World)(h:w.heap[D]? =some (oV Q a m c sy)):Calls prog 46 #[.pointer (some ⟨D,0,none⟩)] w (fun e w'=>e=.returned (.int .i64 0)/\w'.heap[D]? =some (oV Q a m c (m:Int))/\aN (fun b=>b≠D) w w'):=by
 have d:=aA (OA D Q m c a sy w h);have H:=aA h;obtain⟨⟨d0,d1,d2,d3,d4⟩,f0,f1,f2,f3,f4⟩:=dJ h;have f:=aD h;clear h;go_enter func46,ntmps46;go_upto_region 3 with (go_at_call 77;refine d.o.mono ?_;rintro e w1 ⟨rfl,rfl⟩)
 go_wp2;go_ret;exact⟨rfl,aG H.o 2 _,aI _⟩
theorem ZI{w:World}{B:Nat}{a:oD}{n c:Nat}{l:lU}(h:w.ownsRow B 5 1 (.slice a n c) l.length (bF l)):iY w (fun b=>B<=b/\b<w.heap.size) a (bF l):=by
 obtain⟨k,m,e,_,h3,h4⟩:=lK h;injection e with f o p;subst f;intro j;obtain⟨b,off,d,i,g⟩:=h3 j;exact⟨b,off,d,⟨h4 _ d,i⟩,g⟩
theorem XB(D Q k:Nat)(g:oD)(sy:Int)(bs:lU)(a:oD)(c:Nat)(p:lU)(w:World)(C:Q<=1000000)(h:w.heap[D]? =some (oV Q g bs.length k sy))(d:Sl w w.heap.size g (bF bs))(hp:Sl w w.heap.size a (bF p))(h0:0<p.length)(G:bs.length+p.length<=Q):
 Calls prog 68 #[.pointer (some ⟨D,0,none⟩),.slice a p.length c] w (fun e w'=>e=.returned (.int .i64 0)/\(∃(l:lU) (A:oD) (i:Nat),l.length=bs.length+p.length/\w'.heap[D]? =some (oV Q A l.length i sy)/\iY w' (fun b=>w.heap.size<=b/\b<w'.heap.size) A (bF l))/\aN (fun b=>b≠D) w w'):=by
 obtain⟨z,H,B,n⟩:=dD (Gs D Q bs.length k g sy w qo qo h) h (And.intro d hp) (And.intro G (And.intro h0 C));unfold aP at z;have W:¬((Q:Int) - (bs.length:Int)<(p.length:Int)):=qo;obtain⟨⟨d0,d1,d2,d3,d4⟩,_⟩:=dJ h;have q:=aD h;clear h d hp G h0 C;go_enter func68,ntmps68;go_wp2_with fail;refine z.o.mono ?_;rintro e w1 ⟨rfl,t⟩;obtain⟨s,o⟩:=xE (w1.alloc (.cells #[.slice g bs.length k,.slice a p.length c] 80));have E:Below w1.heap.size w1 s:=by rw[o];exact aB _ _
 have I:s.heap[w1.heap.size]? =some (.cells #[.slice g bs.length k,.slice a p.length c] 80 (0,0)):=by rw[o];exact aK _ _ _ rfl
 have j:=aA (aC t E);obtain⟨y,H1,T⟩:=aY (JU _ [bs,p] s (TA (cs:=[.slice g bs.length k,.slice a p.length c]) (c:=2) I ⟨[_],_,rfl,CM (B.o.1.on j.o) (qA n.o),⟨[_],[],rfl,CM (B.o.2.on j.o) (qA n.o),rfl⟩⟩ (by show 2<=1000;omega)) (bs.length+p.length) (by simp only[tX,List.length_cons,List.length_nil,List.take_succ_cons,List.take_zero,List.map_cons,List.map_nil,List.sum_cons,List.sum_nil];omega) (qA n.o) (qA n.o)) (aE H.o t) o;clear o E I d0 d1 d2 d3 d4 q t;obtain⟨⟨d0,d1,d2,d3,d4⟩,_⟩:=dJ H1.o;have q:=aD H1.o;go_wp2_with fail;rw[<-T.o];refine y.o.mono ?_;rintro e M ⟨l,A,i,rfl,J,_,K,F⟩;obtain⟨O,P,x⟩:=aY J (ZI K) (aC j.o F);have r:=qK H x.o;clear J K F d0 d1 d2 d3 d4 q y;obtain⟨⟨d0,d1,d2,d3,d4⟩,f0,f1,f2,f3,f4⟩:=dJ r.o;have q:=aD r.o;obtain⟨f,m⟩:=xE (M.setCell ⟨D,1,none⟩ (.slice A l.length i));have v:Hid (f.heap[D]? =some (oV Q A l.length i sy)):=aA (by rw[m];exact aG r.o 1 _);have R:Hid (aN (fun b=>b≠D) w f):=aA (by rw[m];exact(aJ x.o).trans (aI _));have S:Hid (iY f (fun b=>w.heap.size<=b/\b<f.heap.size) A (bF l)):=aA (by
  have L:aN (fun b=>b≠D) M f:=by rw[m];exact aI _
  have V:=aD H.o;exact(P.o.aCT (L.mono fun b _ d e=>qD d.1 j.o.size)).more fun b d=>⟨lT j.o.size d.1,lL d.2 L.size⟩)
 have N:=aA (OA D Q l.length i A sy f v.o);have U:=aA m;clear m;go_wp2_with fail;rw[<-U.o];refine N.o.mono ?_;rintro e X ⟨rfl,rfl⟩;go_wp2;go_ret;exact⟨rfl,⟨l,A,i,O.o,v.o,S.o⟩,R.o⟩
end
section
variable {P:Program} {w:World}
theorem CN(g:Nat)(cs:Array Value):aN (fun b=>b≠g) w (w.setRow g cs):=⟨rfl,rfl,rfl,by simp[World.setRow],fun k _ a=>setRow_other w g k cs a⟩
theorem Gt{o:Oper}{a:Act}{K:Act->World->Prop}{Q:Exit->Act->World->Prop}(ty:TypeId)(x y:Operand)(f:o.op=.store ty x y)(g:Nat)(cells:Array Value)(i:a.eval x=.pointer (some ⟨g,0,none⟩))(j:a.eval y=.agg cells)(t:TypeId)(c:Array Value)(d:w.heap[g]? =some (.cells c t (0,0)))(e:(P.info? ty).map (·.size)=some cells.size)(hold:c.size=cells.size)(h1:cells.all (·.oneCell')=true)
 (h:∀w',Hid (w'.heap[g]? =some (.cells cells t (0,0)))->Hid (aN (fun b=>b≠g) w w')->K (a.put o.dst undef) w'):o.wp P a w K Q:=
 wp_store_row ty x y f g cells i j t c d e hold h1 (h _ (setRow_heap w g c cells t (0,0) d) (CN g cells))
theorem eC{ops:Array Oper}{rest:List Oper}{o:Oper}{a:Act}{Q:Exit->Act->World->Prop}(f:o.guard=none)(ty:TypeId)(x y:Operand)(j:o.op=.store ty x y)(g:Nat)(cells:Array Value)(k:a.eval x=.pointer (some ⟨g,0,none⟩))(l:a.eval y=.agg cells)(t:TypeId)(c:Array Value)(e:w.heap[g]? =some (.cells c t (0,0)))(i:(P.info? ty).map (·.size)=some cells.size)(hold:c.size=cells.size)(h1:cells.all (·.oneCell')=true)
 (h:∀w',Hid (w'.heap[g]? =some (.cells cells t (0,0)))->Hid (aN (fun b=>b≠g) w w')->wpList P ops Q rest (a.put o.dst undef) w'):wpList P ops Q (o::rest) a w:=
 wpList_plain f fun _ d=>Gt ty x y j g cells k l t c e i hold h1 fun w' h2 h3=>d _ _ (h w' h2 h3)
theorem kX{ops:Array Oper}{o:Oper}{a:Act}{K:Act->World->Prop}{Q:Exit->Act->World->Prop}{E:Prop}(e:o.guard=none)(ty:TypeId)(x y:Operand)(i:o.op=.store ty x y)(g:Nat)(cells:Array Value)(j:a.eval x=.pointer (some ⟨g,0,none⟩))(k:a.eval y=.agg cells)(t:TypeId)(c:Array Value)(d:w.heap[g]? =some (.cells c t (0,0)))(f:(P.info? ty).map (·.size)=some cells.size)(hold:c.size=cells.size)(h1:cells.all (·.oneCell')=true)
 (h:∀w',Hid (w'.heap[g]? =some (.cells cells t (0,0)))->Hid (aN (fun b=>b≠g) w w')->K (a.put o.dst undef) w'):if Region.wanted o (yielded ops a.tmps)=true then Oper.wp P o a w K Q else E:=by
 rw[iP (by simp[Region.wanted,e])];exact Gt ty x y i g cells j k t c d f hold h1 h
end
theorem sU{s:bY}(h:s.size<=cQ):s.size<=maxLen:=by unfold cQ at h;unfold maxLen;omega
theorem Bq(k:Int)(w:World):Calls prog 151 #[.int .i64 k] w (aP (.bool (decide (k=3\/k=5))) w):=by
 unfold aP;go_enter func151,ntmps151;go_wp2
 all_goals go_returns
 all_goals exact⟨bH (by rw[Bool.eq_iff_iff];simp[*]<;>(intros;omega)),Below.refl _ _⟩
theorem vX:∀(x y:lU),Op.bytesLess x y=decide (x<y)
 | [],[]=>by simp[Op.bytesLess]
 | [],b::y=>by simp[Op.bytesLess]
 |a::x,[]=>by simp[Op.bytesLess]
 |a::x,b::y=>by
  rw[Op.bytesLess,vX x y,Bool.eq_iff_iff,decide_eq_true_iff,List.cons_lt_cons_iff];simp only[Bool.or_eq_true,Bool.and_eq_true,decide_eq_true_eq,bQ]
def sV(a b:V3)(w:World)(e:Ending)(w':World):Prop:=e=.returned (.tuple #[.bool (jT a b).1,.int .i64 (jT a b).2])/\Below w.heap.size w w'
theorem CP(a b:V3)(ha:cS a)(J:cS b)(w:World):Calls prog 260 #[dB a,dB b] w (sV a b w):=by
 obtain⟨d,f,j⟩:=a;obtain⟨g,i,k⟩:=b;have l:=aA (fun w=>nJ d f j (sU ha.2.2) w);have m:=aA (fun w=>nJ g i k (sU J.2.2) w);unfold lD at l m;unfold dB;simp only;have G:=aA (aC (aB w (.cells #[.int .i64 d,.int .i64 f,.string j] 44)) (aB _ (.cells #[.int .i64 g,.int .i64 i,.string k] 44)));obtain⟨ra,y⟩:∃r,aT (d,f,j)=r:=⟨_,rfl⟩;obtain⟨L,z⟩:∃r,aT (g,i,k)=r:=⟨_,rfl⟩;rw[y] at l;rw[z] at m;have H:=aA y;have I:=aA z;clear ha J y z;have A:=aA (aE (aK w (.cells #[.int .i64 d,.int .i64 f,.string j] 44) _ rfl) (aB (w.alloc (.cells #[.int .i64 d,.int .i64 f,.string j] 44)) (.cells #[.int .i64 g,.int .i64 i,.string k] 44)));have B:Hid (((w.alloc (.cells #[.int .i64 d,.int .i64 f,.string j] 44)).alloc (.cells #[.int .i64 g,.int .i64 i,.string k] 44)).heap[w.heap.size+1]? =some (.cells #[.int .i64 g,.int .i64 i,.string k] 44 (0,0))):=aA (aK (w.alloc (.cells #[.int .i64 d,.int .i64 f,.string j] 44)) (.cells #[.int .i64 g,.int .i64 i,.string k] 44) _ qs)
 cases ra
 .go_enter func260,ntmps260;go_wp2_with fail;refine(l.o _).mono ?_;rintro e w1 ⟨rfl,c⟩;have v:=qB G c;clear c l;go_wp2;go_returns;unfold sV jT;rw[iP (.inl H.o)];exact⟨rfl,v.o⟩
 .go_enter func260,ntmps260;go_wp2_with fail;refine(l.o _).mono ?_;rintro e w1 ⟨rfl,c⟩;have v:=qB G c
  try clear n o p C
  replace A:=qK A c;obtain⟨⟨n,o,p⟩,_⟩:=cD A.o;have C:=aD A.o
  try clear q s t D
  replace B:=qK B c;obtain⟨⟨q,s,t⟩,_⟩:=cD B.o;have D:=aD B.o;clear c l;go_wp2_with fail;refine(m.o _).mono ?_;rintro e w2 ⟨rfl,c⟩;have x:=qB v c
  try clear n o p C
  replace A:=qK A c;obtain⟨⟨n,o,p⟩,_⟩:=cD A.o;have C:=aD A.o
  try clear q s t D
  replace B:=qK B c;obtain⟨⟨q,s,t⟩,_⟩:=cD B.o;have D:=aD B.o;clear c m
  cases L
  .go_wp2;go_returns;unfold sV jT;rw[iP (.inr I.o)];exact⟨rfl,x.o⟩
  .go_wp2_with (go_at_call 151;refine(Bq _ _).mono ?_;rintro e N ⟨rfl,c⟩;have K:=qB x c;have E:=qK A c;have F:=qK B c;clear c;obtain⟨⟨a0,M,a2⟩,_⟩:=cD E.o;obtain⟨⟨b0,b1,b2⟩,_⟩:=cD F.o;have O:=aD E.o;have P:=aD F.o)
   all_goals go_returns
   all_goals
    unfold sV jT;rw[iN (fun h=>h.elim (fun h=>by rw[H.o] at h;cases h) (fun h=>by rw[I.o] at h;cases h))];refine⟨?_,?_⟩
    .simp_all [vX]
    .first|exact K.o|exact x.o
theorem BF{p:Prop}(h:p:=by
 go_wp2;go_returns;exact⟨_,rfl,aM.nil,Below.refl _ _⟩):p:=h
theorem JV{p:Prop}(h:p:=by
 have hk1:¬(k:Int)<(l.length:Int):=qo;obtain rfl:k=l.length:=qo;have HF:=aA (OD HR.o);clear HR;go_wp2;go_returns;exact⟨by rw[HF.o];rfl,HB.o⟩):p:=h
theorem JW{p:Prop}(h:p:=by
 unfold aP at HI;have HL:Hid (∀g,PR l[k]=g->((if g=true then eU PR l=(k:Int) else ∀i (hi:i<l.length),i<k+1->PR l[i]=false):Prop)):=aA (fun g hg=>by
  cases g
  .rw[iN qe];intro i hi h
   rcases Nat.lt_or_ge i k with h1|h1
   .exact HR.o i hi h1
   .obtain rfl:i=k:=qo;exact hg
  .rw[iP rfl];exact IM hlt HR.o hg)
 clear HR hcl;generalize hx:l[k]=x at *;generalize PR x=g at *;clear hx;go_wp2_with fail;refine HI.o.mono ?_;rintro e w' ⟨rfl,hb'⟩;have HB':=qB HB hb';clear HI hb'
 cases g
 .have HF:=aA (HL.o false rfl);clear HL;go_wp2;go_roundw
  case rel=>exact⟨k+1,qo,by go_num,aA (by have:=HF.o;rwa [iN qe] at this),HB'⟩
  case measure=>simp[intOf];omega
 .have HF:=aA (HL.o true rfl);clear HL;go_wp2;go_returns;exact⟨by have:=HF.o;rw[iP trivial] at this;rw[this];rfl,HB'.o⟩):p:=h
theorem Xk:dV prog 168 44 3 32:=fP (z:= .agg #[.int .i64 0,.int .i64 0,.string ByteArray.empty]) underlying168 (by kernel_rfl) rfl qe
theorem IL:dV prog 128 173 3 48:=fP (z:= .agg #[.int .i64 0,.string ByteArray.empty,.slice none 0 0]) underlying128 (by kernel_rfl) rfl qe
theorem lI{α:Type}{R:Rep α}{s:Nat}(F:Firm R s){e:TypeId}{w w':World}{ok:nP}{cs:List Value}{l:List α}{v:Value}(h:aX (R w ok) cs l)(c:Below w.heap.size w w')(d:w'.ownsRow w.heap.size e s v l.length cs):aM R s e w' w.heap.size ok v l:=by
 refine⟨cs,d,h.mono fun r x f=> ?_⟩;refine F.more (F.aCT (F.inb f) (aJ c)) fun b a=>⟨a.1,lL a.2 c.size,fun e=> ?_⟩
 have:=(d.lt b e.symm).1;have:=a.2;omega
theorem kD{α:Type}{R:Rep α}{s:Nat}(F:Firm R s)(i:0<s){w:World}{ok:nP}{n c:Nat}{l:List α}(h:aH R w ok (.slice none n c) l):l=[]:=by
 obtain⟨a,j,cs,e,h1,h2,_⟩:=h;injection e with f k m;subst f;by_cases d:cs=[]
 .subst d;exact h2.aDJ (fun _ _ g=>F.len g) i
 .obtain⟨b,off,e,_⟩:=h1 d;cases e
theorem eI{α:Type}{enc:α->List Value}{good:α->Prop}{s:Nat}{e:TypeId}{w:World}{base:Nat}{ok ok':nP}{v:Value}{l:List α}(h:aM (mK enc good) s e w base ok v l):aM (mK enc good) s e w base ok' v l:=by
 obtain⟨cs,h1,h2⟩:=h;exact⟨cs,h1,h2.mono fun r x a=>a⟩
def bV{α:Type}(R:Rep α)(s:Nat)(e:TypeId)(ok:nP)(l:List α)(w:World)(a:Ending)(w':World):Prop:=
 ∃v,a=.returned v/\aM R s e w' w.heap.size ok v l/\Below w.heap.size w w'
theorem Br{ok:nP}(v:Value)(l:List V3)(w:World)(h:aH VR w ok v l):Calls prog 259 #[v] w (bV VR 3 44 ok l w):=by
 obtain⟨a,c,rfl,n⟩:=h.slice;unfold bV
 rcases a with _|k
 .have B:=kD bG qe h;subst B;have heq:=Lib.run_eql_slice_nil (P:=prog) w 168 44 none 0 c 0 0 underlying168;clear h;go_enter func259,ntmps259;exact BF
 .obtain⟨D,E,cs,b,h1,h2,_⟩:=h;injection b with b _ z;subst b z;have heq:=Lib.run_eql_slice_nil (P:=prog) w 168 44 (some k) l.length c 0 0 underlying168;have d:Below w.heap.size w (w.alloc (.cells #[] 44)):=(Below.refl _ _).alloc (lR _) _;have g:=aA (World.ownsRow_made (e:=44) w #[] 0 (lR _) (by simp[maxLen]) rfl:(w.alloc (.cells #[] 44)).ownsRow w.heap.size 44 3 (.slice (some ⟨w.heap.size,0,none⟩) 0 0) 0 []);have s:=aA (h2.len (fun _ _ f=>bG.len f));have t:=aA (h2.aDh (fun _ _ f=>bG.one f));obtain⟨y,r,q,j⟩:=dD (h1.lt.below d) h2 d n;clear h1 h2 d n;go_enter func259,ntmps259;go_wp2_with (at_builtin;refine fQ Xk rfl (.tmp 5) (.tmp 6) rfl w.heap.size (.slice (some ⟨w.heap.size,0,none⟩) 0 0) 0 [] rfl g.o (some k) l.length c cs rfl s.o (y.o.more qs) t.o (by have:=j.o;unfold maxLen;omega) (qA j.o) qs ?_;intro C c1 w1 p m A;have i:=aA (dU g.o q.o m (lR _) qs);have x:=aA p;clear p m A)
  go_returns;have o:=x.o;simp only[Nat.zero_add,List.nil_append] at o ⊢;exact⟨_,rfl,lI bG r.o i.o o,i.o⟩
def eU{α:Type}(p:α->Bool)(l:List α):Int:=if l.findIdx p<l.length then (l.findIdx p:Int) else -1
theorem IM{α:Type}{p:α->Bool}{l:List α}{k:Nat}(a:k<l.length)(b:∀i (c:i<l.length),i<k->p l[i]=false)(h:p l[k]=true):eU p l=(k:Int):=by
 have e:l.findIdx p=k:=(List.findIdx_eq a).2 ⟨h,fun j hj=>b j qo hj⟩;unfold eU;rw[e,iP a]
theorem OD{α:Type}{p:α->Bool}{l:List α}(b:∀i (a:i<l.length),i<l.length->p l[i]=false):eU p l= -1:=by
 have e:l.findIdx p=l.length:=by
  rw[List.findIdx_eq_length];intro x c;obtain⟨i,a,rfl⟩:=List.getElem_of_mem c;exact b i a a
 unfold eU;rw[e,iN qo]
theorem sW{α:Type}(p:α->Bool)(l:List α):decide (0<=eU p l)=l.any p:=by
 unfold eU;rw[Bool.eq_iff_iff,decide_eq_true_iff,List.any_eq_true];by_cases h:l.findIdx p<l.length
 .rw[iP h];exact⟨fun _=>⟨_,List.getElem_mem h,List.findIdx_getElem (w:=h)⟩,fun _=>by omega⟩
 .rw[iN h];exact⟨fun h=>by omega,fun⟨x,a,hp⟩=>absurd (List.findIdx_lt_length_of_exists ⟨x,a,hp⟩) h⟩
def iZ(w:World)(p i:Nat)(v:Value):Prop:=w.cell? ⟨p,i,none⟩=some v/\p<w.heap.size
theorem iZ.on{w w':World}{p i:Nat}{v:Value}(h:iZ w p i v)(a:Below w.heap.size w w'):iZ w' p i v:=⟨(a.cell (p:=⟨p,i,none⟩) h.2).trans h.1,lL h.2 a.size⟩
theorem Bs(x:Gv)(b:oD)(c:Nat)(C:Int)(N:bY)(p q:Nat)(w:World)(hp:iZ w p 0 (.int .i64 C))(a:iZ w q 0 (.string N)):
 Calls prog 279 #[.agg #[.int .i64 x.1,.string x.2.1,.slice b x.2.2.length c],.pointer (some ⟨p,0,none⟩),.pointer (some ⟨q,0,none⟩)] w (aP (.bool (mL C N x)) w):=by
 unfold aP;have h1:p≠w.heap.size:=qA hp.2;have h2:q≠w.heap.size:=qA a.2;obtain⟨hp,d⟩:=hp;obtain⟨a,e⟩:=a;go_enter func279,ntmps279;go_wp2
 .rename_i h;go_returns;refine⟨?_,aB _ _⟩;show Ending.returned (.bool (x.2.1.toList==N.toList))=_;rw[jD];unfold mL;rw[dX h];rfl
 .rename_i h;go_returns;refine⟨?_,aB _ _⟩;show Ending.returned (.bool false)=_;unfold mL;rw[dF h];rfl
theorem Gu{ok:nP}(v:Value)(l:List Gv)(C:Int)(N:bY)(p q:Nat)(w:World)(h:aH jN w ok v l)(d:iZ w p 0 (.int .i64 C)/\iZ w q 0 (.string N)):Calls prog 278 #[v,.func (.func 279) #[] #[.pointer (some ⟨p,0,none⟩),.pointer (some ⟨q,0,none⟩)]] w (aP (.int .i64 (eU (mL C N) l)) w):=by
 obtain⟨a,c,rfl,D⟩:=h.slice;have t:=aA h;have j:=aA (fun wr (o:Below w.heap.size w wr)=>(⟨d.1.on o,d.2.on o⟩:iZ wr p 0 (.int .i64 C)/\iZ wr q 0 (.string N)));clear h d;obtain⟨PR,f⟩:∃PR:Gv->Bool,PR=(mL C N):=⟨_,rfl⟩;have s:=aA f;rw[<-f];clear f;unfold aP;go_enter func278,ntmps278;go_wp2;go_loopw [5,8] (fun _ i wr=>∃k:Nat,k<=l.length/\i=.int .i64 k/\Hid (∀i (hi:i<l.length),i<k->PR l[i]=false)/\Hid (Below w.heap.size w wr)) (fun _ i _=>l.length - (intOf i).toNat)
 case atStart=>exact BC
 case round=>
  obtain⟨k,B,rfl,HR,HB⟩:=hrel;by_cases hlt:k<l.length
  .have hk1:(k:Int)<(l.length:Int):=qo;obtain⟨b,off,r,rfl,_,A,⟨vb,rfl,y⟩,hcl⟩:=aH.at cA (t.o.on cA HB.o) hlt qe;obtain⟨m,n,rfl,_⟩:=y.2.2.slice;obtain⟨z,E,F⟩:=cR3 hcl;rw[Nat.add_zero] at z;have HI:Hid (Calls prog 279 #[.agg #[.int .i64 l[k].1,.string l[k].2.1,.slice m l[k].2.2.length n],.pointer (some ⟨p,0,none⟩),.pointer (some ⟨q,0,none⟩)] wr (aP (.bool (PR l[k])) wr)):=by rw[s.o];exact aA (Bs l[k] m n C N p q wr (j.o wr HB.o).1 (j.o wr HB.o).2)
   exact JW
  .exact JV
theorem Bt(l:List Gv)(C:Int)(N:bY):mN l C N=eU (mL C N) l:=rfl
theorem Bu{ok:nP}(v:Value)(l:List Gv)(C:Int)(N:bY)(w:World)(h:aH jN w ok v l):
 Calls prog 258 #[v,.int .i64 C,.string N] w (aP (.int .i64 (mN l C N)) w):=by
 obtain⟨h1,h2,h3,h4,h5⟩:=Fq w (.int .i64 C) (.string N) 3 9;have d:=aA (Gu v l C N w.heap.size (w.heap.size+1) _ (h.on cA h5) ⟨⟨h1,h3⟩,⟨h2,h4⟩⟩);have b:=aA h5;obtain⟨a,c,rfl,i⟩:=h.slice;clear h1 h2 h3 h4 h5 h;rw[Bt];unfold aP at *;generalize eU (mL C N) l=pl at *;go_enter func258,ntmps258;go_wp2_with fail;refine d.o.mono ?_;rintro e w' ⟨rfl,f⟩;have g:=qB b f;clear d f b;go_wp2;go_returns;exact⟨rfl,g.o⟩
def sX(l:List Gv)(a:At)(w:World)(e:Ending)(w':World):Prop:=
 ∃v,e=.returned (.tuple #[v,.int .i64 (rJ l a).2])/\aH VR w' (fun b=>w.heap.size<=b) v (rJ l a).1/\Below w.heap.size w w'
theorem Gw(l:List Gv)(C:Int)(N:bY):(mN l C N= -1/\yZ l C N=[])\/∃(k:Nat) (h:k<l.length),mN l C N=(k:Int)/\yZ l C N=l[k].2.2:=by
 by_cases h:mM l C N<l.length
 .refine .inr ⟨mM l C N,h,?_,Wn h⟩;unfold mN;rw[iP h]
 .refine .inl ⟨?_,Mm h⟩;unfold mN;rw[iN h]
theorem TC{ok:nP}(v:Value)(l:List Gv)(at_:At)(w:World)(h:aH jN w ok v l):Calls prog 237 #[v,oG at_] w (sX l at_ w):=by
 obtain⟨cat,name,must⟩:=at_;have E:=aB w (.cells #[.int .i64 cat,.string name,.bool must] 286);obtain⟨y,j,R,d,L⟩:=gC (Bu v l cat name _ (h.on cA E)) (Gw l cat name) h (aK w (.cells #[.int .i64 cat,.string name,.bool must] 286) _ rfl) E;obtain⟨a,c,rfl,ad⟩:=h.slice;obtain⟨B,m⟩:∃B,yZ l cat name=B:=⟨_,rfl⟩;have J:Hid (∀v w',(B=[]/\must=true)->aH VR w' (fun b=>w.heap.size<=b) v []->Below w.heap.size w w'->sX l ⟨cat,name,must⟩ w (.returned (.tuple #[v,.int .i64 4])) w'):=aA (fun v w' h1 h2 h3=>by
  unfold sX rJ;simp only[m];rw[iP h1];exact⟨v,rfl,h2,h3⟩)
 have z:Hid (∀v w',¬(B=[]/\must=true)->aH VR w' (fun b=>w.heap.size<=b) v B->Below w.heap.size w w'->sX l ⟨cat,name,must⟩ w (.returned (.tuple #[v,.int .i64 0])) w'):=aA (fun v w' h1 h2 h3=>by
  unfold sX rJ;simp only[m];rw[iN h1];exact⟨v,rfl,h2,h3⟩)
 rw[m] at j;unfold oG;unfold aP at y;clear E h m;generalize mN l cat name=pl at *;go_enter func237,ntmps237;go_wp2_with fail;refine y.o.mono ?_;rintro e w1 ⟨rfl,F⟩;have f:=qB L F
 try clear p q s I
 replace d:=qK d F;obtain⟨⟨p,q,s⟩,_⟩:=cD d.o;have I:=aD d.o;clear y F L
 rcases j.o with ⟨C,i⟩|⟨k,S,C,i⟩
 .subst C;have g:=aA i;clear j i
  cases must
  .go_wp2;go_returns;exact z.o _ _ qs (by rw[g.o];exact aH.nil) f.o
  .go_wp2;go_returns;exact J.o _ _ ⟨g.o,(by trivial)⟩ aH.nil f.o
 .subst C;obtain⟨b,off,r,rfl,_,Z,⟨vb,rfl,N⟩,M⟩:=aH.at cA (R.o.on cA f.o) S qe;have n:=N.2.2;rw[<-i] at n;obtain⟨W,X,rfl,O⟩:=n.slice;obtain⟨P,U,V⟩:=cR3 M;rw[Nat.add_zero] at P;have ab:(k:Int)<(l.length:Int):=qo;have aa:decide ((k:Int) ≥ 0)=true:=dX qo;have x:=aA (Br _ _ w1 n);unfold bV at x;have Q:=aA O;clear j N M i n O;go_wp2_with fail;refine x.o.mono ?_;rintro e w2 ⟨v,rfl,H,G⟩;obtain⟨A,Y,rfl⟩:=H.slice;have K:=aA ((eI (enc:=IC) (good:=cS) (ok':=fun b=>w.heap.size<=b) H).sl Q.o (fun b=>w.heap.size<=b) (fun b D _=>D) (fun b D _=>lT f.o.size D) bG);have t:=qB f G
  try clear p q s I
  replace d:=qK d G;obtain⟨⟨p,q,s⟩,_⟩:=cD d.o;have I:=aD d.o;clear x G H P U V f;by_cases o:B.length=0
  .have T:((B.length:Int)==0)=true:=bQ.2 qo;have g:=aA (List.eq_nil_of_length_eq_zero o);clear o
   cases must
   .go_wp2;go_returns;exact z.o _ _ qs K.o t.o
   .go_wp2;go_returns;exact J.o _ _ ⟨g.o,(by trivial)⟩ aH.nil t.o
  .have T:((B.length:Int)==0)=false:=bN.2 qo;have g:Hid (¬(B=[]/\must=true)):=aA (fun h=>o (by rw[h.1];rfl));clear o;go_wp2;go_returns;exact z.o _ _ g.o K.o t.o
end Go.Proofs.YtgoanbpcdhmfkaaGreatDoor
