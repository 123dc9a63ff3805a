/- Lemmas. -/
import Derived.Test.YthcgdgkpgdjahaaGreatDoorMag
import Derived.Lib.AppendZerosOnto
namespace Go.Proofs.YthcgdgkpgdjahaaGreatDoor
open Go.RowKit
set_option linter.unusedVariables false
set_option linter.unusedSimpArgs false
set_option maxHeartbeats 16000000
open _root_.Go.Proofs.Tryz
set_option maxRecDepth 20000
theorem Ja(s:Sto)(o:Op)(what:bY):(mE s o what).aDX=s.aDX:=by unfold mE;dsimp only;split<;>rfl
theorem DC(o:Op)(d:Bool)(s:Sto)(x:Ob):(cU o d s x).aDX=s.aDX:=by
 unfold cU;split
 .exact Ja _ _ _
 .split
  .rfl
  .split<;>rfl
theorem GS(o:Op)(d:Bool):∀(l:List Ob) (s:Sto),(l.foldl (cU o d) s).aDX=s.aDX
 | [],_=>rfl
 |x::l,s=>(GS o d l _).trans (DC o d s x)
inductive xH (s:Sto) (o:Op):Sto×Rpl×Option Deci×Int->Prop where
 |none (r:Rpl) (e:Int) (he:e≠0) (hr:r.err=e) (hg:r.aEh=false):xH s o (s,r,Option.none,e)
 |some (m:Mk) (l:List Ob) (glass hidden:Bool) (v:V3) (hready:dJ s o=0) (hpol:o.aDN=7->(fH o.text).2.1=0)
   (hidx:gN (qM s o) s.aDP=((m,l),0)) (hgl:glass=jM s o m)
   (hov:kF (l.foldl (cU o (decide (m=(4,0))||glass)) (if (decide (m=(4,0))||glass)=true then cT (if glass=true then gG s o o.aEc else s) o else (if glass=true then gG s o o.aEc else s)))=false)
   (hhid:hidden=((decide (m=(4,0))||glass)&&(decide (o.aDN=2)&&l.any (fun x=>decide (x.aDN=2)&&decide (x.arg=o.aD7)))))
   (hval:v=if ((decide (m=(4,0))||glass)&&(decide (o.aDN=2)&& !hidden))=true then ((dU s o.aDU).map (fun c=>eB c o.aD7)).getD aY else aY):
   xH s o (l.foldl (cU o (decide (m=(4,0))||glass)) (if (decide (m=(4,0))||glass)=true then cT (if glass=true then gG s o o.aEc else s) o else (if glass=true then gG s o o.aEc else s)),
    ⟨if (decide (m=(4,0))||glass)=true then 0 else 12,m,glass,v,hidden,0⟩,Option.some ⟨o,s.aD0,m,glass,l⟩,0)
def Jb(s:Sto)(o:Op)(place:Int):Sto×Rpl×Option Deci×Int:=
 let (r,e2):=gN (qM s o) s.aDP
 if e2≠0 then (s,{rC with err:=e2,at_:=place},none,e2)
 else
  let glass:=jM s o r.1
  let done:=decide (r.1=(4,0))||glass
  let a:=if glass then gG s o o.aEc else s
  let d:=if done then cT a o else a
  let hidden:=done&&(decide (o.aDN=2)&&r.2.any (fun x=>decide (x.aDN=2)&&decide (x.arg=o.aD7)))
  let val:=if done&&(decide (o.aDN=2)&& !hidden) then ((dU s o.aDU).map (fun c=>eB c o.aD7)).getD aY else aY
  let b:=r.2.foldl (cU o done) d
  if kF b then (s,{rC with err:=6,at_:=place},none,6)
  else (b,⟨if done then 0 else 12,r.1,glass,val,hidden,0⟩,some ⟨o,s.aD0,r.1,glass,r.2⟩,0)
def pF(s:Sto)(o:Op):Int×Int:=if dJ s o=0/\o.aDN=7 then (fH o.text).2 else (dJ s o,0)
theorem AE(s:Sto)(o:Op):bO s o=if (pF s o).1≠0 then (s,{rC with err:=(pF s o).1,at_:=(pF s o).2},none,(pF s o).1) else Jb s o (pF s o).2:=rfl
theorem Be{s:Sto}{o:Op}(place:Int)(h0:dJ s o=0)(hp:o.aDN=7->(fH o.text).2.1=0):xH s o (Jb s o place):=by
 unfold Jb
 rcases c:gN (qM s o) s.aDP with ⟨⟨m,l⟩,b⟩
 dsimp only;by_cases he:b=0
 .subst he;rw[iN (fun h=>h rfl)];by_cases a:kF (l.foldl (cU o (decide (m=(4,0))||jM s o m)) (if (decide (m=(4,0))||jM s o m)=true then cT (if jM s o m=true then gG s o o.aEc else s) o else (if jM s o m=true then gG s o o.aEc else s)))=true
  .rw[iP a];exact xH.none _ _ qe rfl rfl
  .rw[iN a];exact xH.some m l _ _ _ h0 hp c rfl (by simpa using a) rfl rfl
 .rw[iP he];exact xH.none _ _ he rfl rfl
theorem pU(s:Sto)(o:Op):xH s o (bO s o):=by
 rw[AE];by_cases he:(pF s o).1=0
 .rw[iN (fun h=>h he)];unfold pF at he;by_cases a:dJ s o=0/\o.aDN=7
  .rw[iP a] at he;exact Be _ a.1 (fun _=>he)
  .rw[iN a] at he;exact Be _ he (fun h=>absurd ⟨he,h⟩ a)
 .rw[iP he];exact xH.none _ _ he rfl rfl
theorem oG{s:Sto}{o:Op}(h:dJ s o=0):gW o=true:=by
 unfold dJ at h;by_cases a:gW o=false
 .rw[iP a] at h;exact absurd h qe
 .simpa using a
theorem SF(g:Bool)(s:Sto)(o:Op)(r:bY):(if g=true then gG s o r else s).aDX=s.aDX:=by split<;>rfl
abbrev rS(o:Op):Array Value:=#[.int .i64 o.aDN,.string o.aD3,.string o.aDU,.string o.aD7,.string o.to_,.int .i64 o.val.1,.int .i64 o.val.2.1,.string o.val.2.2,.int .i64 o.aEa,.string o.text,.string o.aEc,.bool o.aEh]
section
open Pv
def DE(n:Nat)(w:World)(e:Ending)(w':World):Prop:=∃(l:lU) (A:oD) (c:Nat),e=.returned (.slice A l.length c)/\l.length<=n/\Sl w' w'.heap.size A (bF l)/\w'.ownsRow w.heap.size 5 1 (.slice A l.length c) l.length (bF l)/\Below w.heap.size w w'
theorem FM{w:World}{l:lU}{n:Nat}{e:Ending}{w':World}(h:oW w l e w')(a:l.length<=n):DE n w e w':=by
 obtain⟨A,c,h1,h2,h3,h4⟩:=qU h;exact⟨l,A,c,h1,a,h2,h3,h4⟩
theorem UG(a:oD)(c:Nat)(k:Int)(b:bL k)(l:lU)(w:World)(f:l.length<=1000000)(d:Sl w w.heap.size a (bF l)):Calls prog 101 #[.slice a l.length c,.int .i64 k] w (DE (l.length+10) w):=
 (EW a c l.length k l rfl w b.1 b.2 qo d).mono fun e w' h=>FM h (by rw[aL];have:=tA k b.1 b.2;omega)
theorem UH(s:bY)(h:s.size<=1000000):(vG s.data.toList).length<=10+s.size:=by
 have a:s.data.toList.length=s.size:=by rw[Array.length_toList];rfl
 unfold vG;rw[aL,a];have:=tA (s.size:Int) qo qo;omega
theorem DF(a:oD)(c:Nat)(s:bY)(m:Nat)(f:s.size<=m)(hm:m<=1000000)(l:lU)(w:World)(d:l.length<=1000000)(b:Sl w w.heap.size a (bF l)):Calls prog 102 #[.slice a l.length c,.string s] w (DE (l.length+10+m) w):=
 (TM a c l.length s l rfl w qo qo b).mono fun e w' h=>FM h (by rw[aL];have:=UH s qo;omega)
theorem UI(a:oD)(c:Nat)(v:V3)(b:cS v)(m:Nat)(g:v.2.2.size<=m)(hm:m<=1000000)(l:lU)(w:World)(f:l.length<=1000000)(d:Sl w w.heap.size a (bF l)):Calls prog 103 #[.slice a l.length c,.agg #[.int .i64 v.1,.int .i64 v.2.1,.string v.2.2]] w (DE (l.length+20+m) w):=
 (Qb a c l.length l rfl v ⟨b.1,b.2.1,qo⟩ w qo d).mono fun e w' h=>FM h (by
   rw[aL];have h1:=tA v.1 b.1.1 b.1.2;have h2:=tA v.2.1 b.2.1.1 b.2.1.2;have h3:=UH v.2.2 qo;unfold CX;rw[aL];split<;>omega)
theorem YR(b:Bool)(w:World):Calls prog 104 #[.bool b] w (aP (dC (cI b)) w):=by
 have a:Hid (∀x,dC (1,x,ByteArray.empty)=.agg #[.int .i64 1,.int .i64 x,.string ByteArray.empty]):=aA (fun x=>rfl);have e:cI b=(1,if b then 1 else 0,ByteArray.empty):=rfl;rw[e,a.o];clear e;have HBE:=aA (fun c d:Obj=>aC (aB w c) (aB _ d));unfold aP
 cases b
 .go_enter func104,ntmps104;exact QDj
 .go_enter func104,ntmps104;exact QDk
structure TC (o:Op):Prop where
 aD3:o.aD3.size<=16
 aDU:o.aDU.size<=16
 aD7:o.aD7.size<=16
 to_:o.to_.size<=16
 val:o.val.2.2.size<=64
 aEc:o.aEc.size<=64
 text:o.text.size<=4096
theorem Qc(o:Op)(U:iU o)(L:TC o)(w:World):Calls prog 45 #[eZ o] w (DE (320+o.text.size) w):=by
 obtain⟨W0,O⟩:=xE (w.alloc (.cells (bX o) 32));have ah:Below w.heap.size w W0:=by rw[O];exact aB _ _
 have B:Hid (W0.heap[w.heap.size]? =some (.cells (bX o) 32 (0,0))):=aA (by rw[O];exact aK _ _ _ rfl);obtain⟨a1,F,Y,R⟩:=dH ah L U (UG none 0 o.aDN U.1 [] W0 qe (by intro h;exact absurd rfl h));rw[show ([]:lU).length=0 from rfl] at R;have bk:=aA O;unfold eZ bX at *;clear O ah U L;obtain⟨⟨f,g,n,p,q,r,t,v,x,y,j,m⟩,_⟩:=bK B.o;have C:=aD B.o;go_enter func45,ntmps45;go_upto_region 1 with (fail)
 rw[<-bk.o];go_wp2_with fail;refine R.o.mono ?_;rintro e w1 ⟨l1,A1,c1,rfl,ak,an,_,T⟩;obtain⟨I,P⟩:=xE (w1.alloc (.cells #[.string o.aD3,.string o.aDU,.string o.aD7,.string o.to_] 9));have N:Below w1.heap.size w1 I:=by rw[P];exact aB _ _
 have S:Hid (I.heap[w1.heap.size]? =some (.cells #[.string o.aD3,.string o.aDU,.string o.aD7,.string o.to_] 9 (0,0))):=aA (by rw[P];exact aK _ _ _ rfl);have bb:=aA (an.on N);have W:=qB a1 (aC T N);replace B:=qK B T;obtain⟨a8,bl,a7⟩:=aZ ak P N;clear P N T an ak f g n p q r t v x y j m C R;obtain⟨⟨f,g,n,p,q,r,t,v,x,y,j,m⟩,_⟩:=bK B.o;have C:=aD B.o;have bj:Hid (∀(k:Nat) (hk:k<4) (wr:World),Below I.heap.size I wr->∃s:bY,s.size<=16/\wr.cell? ⟨w1.heap.size,0+k,none⟩=some (.string s)):=aA (fun k hk wr hb=>by
  obtain⟨⟨S0,S1,S2,S3⟩,_⟩:=nV (aE S.o hb);have:k=0\/k=1\/k=2\/k=3:=qo
  rcases this with rfl|rfl|rfl|rfl
  .exact⟨_,F.o.aD3,S0⟩
  .exact⟨_,F.o.aDU,S1⟩
  .exact⟨_,F.o.aD7,S2⟩
  .exact⟨_,F.o.to_,S3⟩)
 go_wp2;rw[<-bl.o];replace B:=qK B a7.o;clear f g n p q r t v x y j m C;go_loopw [3,5,19] (fun b s i wr=>∃(k:Nat) (l:lU) (A:oD) (c:Nat),k<=4/\i=.int .i64 k/\b=.slice A l.length c/\Hid (l.length<=10+k * 26)/\Hid (Sl wr wr.heap.size A (bF l))/\Hid (Below I.heap.size I wr)) (fun _ _ i _=>4 - (intOf i).toNat)
 case atStart=>exact⟨0,l1,A1,c1,qo,rfl,rfl,aA (qA a8.o),bb,aA (Below.refl _ _)⟩
 case round=>
  obtain⟨k,l,A,c,hk,rfl,rfl,M,ae,z⟩:=hrel;by_cases bs:k<4
  .have b1:(k:Int)<4:=qo;obtain⟨s,L,hc⟩:=bj.o k bs wr z.o;have bq:=hc;rw[Nat.zero_add] at bq;have HT:=aA (DF A c s 16 L qe l wr (qA M.o) ae.o);clear L;go_wp2_with fail;refine HT.o.mono ?_;rintro e w2 ⟨l2,A2,c2,rfl,E,D,_,a⟩;obtain⟨ba,bc,a6⟩:=aZ E D (aC z.o a);clear E D a;go_wp2;go_round
   case rel=>exact⟨k+1,l2,A2,c2,qo,by go_num,rfl,aA (qD ba.o M.o),bc,a6⟩
   case measure=>simp[intOf];omega
  .obtain rfl:k=4:=qo;replace B:=qK B z.o;obtain⟨⟨f,g,n,p,q,r,t,v,x,y,j,m⟩,_⟩:=bK B.o;have C:=aD B.o;go_upto_region 7 with (fail)
   have G:Below wr.heap.size wr wr.drew:=(Below.refl _ _).drew;have J:=aA (ae.o.on G);replace z:=qB z G;replace B:=qK B G;clear G;refine cD 7 [(0,false),(1,false),(2,false),(4,false),(5,false),(3,true),(6,true)] [(7,true)] (fun w'=>w'.heap[w.heap.size]? =some (.cells (rS o) 32 (0,0))) (by kernel_rfl) (by kernel_rfl) B.o ?_;simp only[List.cons_append,List.nil_append]
   repeat (refine dG rfl (fun K H=> ?_);unfold rd;go_simp;refine H _ (fun bw h1=> ?_) ?_;(· clear H K f g n p q r t v x y j m C;obtain⟨⟨f,g,n,p,q,r,t,v,x,y,j,m⟩,_⟩:=bK h1;have C:=aD h1;unfold rd;go_simp);clear H K)
   refine bJ rfl (fun K1 d=> ?_);unfold mv;go_simp;refine(UI A c o.val Y.o.2.2.2.2.2.1 64 F.o.val qe l wr.drew (qA M.o) J.o).mono ?_;rintro e bx ⟨aq,aw,bm,rfl,E,D,_,a⟩;have Z:Hid (aq.length<=10+4 * 26+84):=aA (qA M.o);have bd:=aA D;replace z:=qB z a;replace B:=qK B a;refine d _ _ (fun _=>B.o) ?_;clear d K1 E D a f g n p q r t v x y j m C J;obtain⟨⟨f,g,n,p,q,r,t,v,x,y,j,m⟩,_⟩:=bK B.o;have C:=aD B.o;refine bJ rfl (fun K1 d=> ?_);unfold mv;go_simp;refine(UG aw bm o.aEa Y.o.2.2.2.2.2.2.1 aq bx (qA Z.o) bd.o).mono ?_;rintro e Q ⟨ar,ax,bn,rfl,E,D,_,a⟩;have aa:Hid (ar.length<=10+4 * 26+94):=aA (qA Z.o);have be:=aA D;replace z:=qB z a;replace B:=qK B a;refine d _ _ (fun _=>B.o) ?_;clear d K1 E D a f g n p q r t v x y j m C;obtain⟨⟨f,g,n,p,q,r,t,v,x,y,j,m⟩,_⟩:=bK B.o;have C:=aD B.o;refine bJ rfl (fun K1 d=> ?_);unfold mv;go_simp;refine d _ _ (fun h=>absurd h qe) ?_;clear d K1;unfold cJ;go_upto_region 8 with (fail)
   have G:Below Q.heap.size Q Q.drew:=(Below.refl _ _).drew;have J:=aA (be.o.on G);replace z:=qB z G;replace B:=qK B G;clear G;refine cD 7 [(0,false),(1,false),(2,false),(4,false),(5,false),(3,true),(6,true)] [(7,true)] (fun w'=>w'.heap[w.heap.size]? =some (.cells (rS o) 32 (0,0))) (by kernel_rfl) (by kernel_rfl) B.o ?_;simp only[List.cons_append,List.nil_append]
   repeat (refine dG rfl (fun K H=> ?_);unfold rd;go_simp;refine H _ (fun bw h1=> ?_) ?_;(· clear H K f g n p q r t v x y j m C;obtain⟨⟨f,g,n,p,q,r,t,v,x,y,j,m⟩,_⟩:=bK h1;have C:=aD h1;unfold rd;go_simp);clear H K)
   refine bJ rfl (fun K1 d=> ?_);unfold mv;go_simp;refine(DF ax bn o.text o.text.size (lR _) (qA F.o.text) ar Q.drew (qA aa.o) J.o).mono ?_;rintro e bz ⟨au,ay,bo,rfl,E,D,_,a⟩;have ab:Hid (au.length<=10+4 * 26+104+o.text.size):=aA (qA aa.o);have bf:=aA D;replace z:=qB z a;replace B:=qK B a;refine d _ _ (fun _=>B.o) ?_;clear d K1 E D a f g n p q r t v x y j m C J;obtain⟨⟨f,g,n,p,q,r,t,v,x,y,j,m⟩,_⟩:=bK B.o;have C:=aD B.o;refine bJ rfl (fun K1 d=> ?_);unfold mv;go_simp;refine(DF ay bo o.aEc 64 F.o.aEc qe au bz (qD ab.o F.o.text) bf.o).mono ?_;rintro e b0 ⟨av,az,bp,rfl,E,D,_,a⟩;have ad:Hid (av.length<=10+4 * 26+104+74+o.text.size):=aA (qA ab.o);have bg:=aA D;replace z:=qB z a;replace B:=qK B a;refine d _ _ (fun _=>B.o) ?_;clear d K1 E D a f g n p q r t v x y j m C;obtain⟨⟨f,g,n,p,q,r,t,v,x,y,j,m⟩,_⟩:=bK B.o;have C:=aD B.o;refine bJ rfl (fun K1 d=> ?_);unfold mv;go_simp;refine d _ _ (fun h=>absurd h qe) ?_;clear d K1;unfold cJ;go_wp2_with fail;refine(YR o.aEh b0).mono ?_;rintro e w9 ⟨rfl,aj⟩;have bh:=aA (bg.o.on aj);have X:=qB z aj;have af:=UI az bp (cI o.aEh) (by unfold cI cS bL;dsimp only;split<;>exact⟨qe,qe,qe⟩) 0 (lR _) qe av w9 (qD ad.o F.o.text) bh.o;obtain⟨tv,bt⟩:∃tv,cI o.aEh=tv:=⟨_,rfl⟩;rw[bt] at af ⊢;unfold dC;go_wp2_with fail;refine af.mono ?_;rintro e bu ⟨l10,V,ag,rfl,br,ao,al,ai⟩;have HE:Hid (DE (320+o.text.size) w (.returned (.slice V l10.length ag)) bu):=aA ⟨l10,V,ag,rfl,qA ad.o,ao,tB al (lT W.o.size (lT X.o.size (lR _))),aC (aC W.o X.o) ai⟩
   clear br ao al ai;go_wp2;go_ret;exact HE.o
theorem YS(p:BitVec 64)(o:Op)(T:iU o)(z:TC o)(w:World):Calls prog 16 #[.int .u64 (n64 p),eZ o] w (fun e w'=>DE (328+o.text.size) w e w'/\∀l A c,e=.returned (.slice A (l:lU).length c)->8<=l.length):=by
 obtain⟨W0,q⟩:=xE (w.alloc (.cells (bX o) 32));have N:Below w.heap.size w W0:=by rw[q];exact aB _ _
 have B:Hid (W0.heap[w.heap.size]? =some (.cells (bX o) 32 (0,0))):=aA (by rw[q];exact aK _ _ _ rfl);have C:=aA N;have v:=Qc o T z;have H:=aA z.text;obtain⟨i0,R,X,Y,Z⟩:=info_parts vH;obtain⟨J,K,L,M,al⟩:=gJ R X Y Z q;unfold eZ bX at *;have v:=aA v;clear q N T z R X Y Z;go_enter func16,ntmps16;go_upto_region 1 with (fail)
 rw[<-al.o];go_wp2;go_loopw [5,0,6] (fun b h i wr=>∃(k:Nat) (l:lU) (u:Nat),k<=8/\Hid (l.length=k)/\i=.int .i64 k/\h=.int .u64 (u:Int)/\Hid (TL u)/\Hid (wr.ownsRow W0.heap.size 5 1 b k (bF l))/\Hid (Below W0.heap.size W0 wr)) (fun _ _ i _=>8 - (intOf i).toNat)
 case atStart=>exact⟨0,[],p.toNat,qo,aA rfl,rfl,rfl,aA p.isLt,aA (World.ownsRow_nil _ _ _ _),aA (Below.refl _ _)⟩
 case round=>
  obtain⟨k,l,u,hk,D,rfl,rfl,HU,F,n⟩:=hrel;by_cases ao:k<8
  .have an:(k:Int)<8:=qo;have aq:(0:Int)<=(u:Int):=qo;have O:(((UInt8.ofNat (u % 256)).toNat:Nat):Int)=(u:Int) % 256:=by rw[mJ (u % 256) qo];omega
   have W:Hid (bF [UInt8.ofNat (u % 256)]=[.int .u8 ((u:Int) % 256)]):=aA (by show[Value.int .u8 ((UInt8.ofNat (u % 256)).toNat:Int)]=_;rw[O]);have E:=aA (uD [UInt8.ofNat (u % 256)]);have I:Hid ((bF [UInt8.ofNat (u % 256)]).length=1 * 1):=aA rfl;have ae:Hid ((u:Int) / 256=((u / 256:Nat):Int)):=aA qo;have aj:Hid (TL (u / 256)):=aA (by have:=HU.o;unfold TL at *;omega);generalize U:bF [UInt8.ofNat (u % 256)]=Q at W E I;have HQ:=aA U;have y:=F.o.alloc (.cells #[.int .u8 ((u:Int) % 256)] 5);have P:Sl (wr.alloc (.cells #[.int .u8 ((u:Int) % 256)] 5)) (wr.heap.size+1) (some ⟨wr.heap.size,0,none⟩) Q:=by rw[W.o];exact Sl.laid wr _ _ _ _ rfl
   have a:=n.o.alloc n.o.size (.cells #[.int .u8 ((u:Int) % 256)] 5);clear O U;go_wp2_with (at_builtin;refine lW _ rfl (.tmp 8) (.tmp 11) 71 rfl W0.heap.size 5 i0 (.int .u8 0) 1 1 underlying71 J.o K.o L.o M.o rfl qe _ k _ rfl y (wr.heap.size+1) (some ⟨wr.heap.size,0,none⟩) 1 1 Q rfl I.o P E.o (by unfold maxLen;omega) qo a.size ?_;intro v3 r d m x;have j:Below W0.heap.size W0 r:=dY y a m (lR _) a.size;have ah:=aA d;have ad:=aA j;clear y P a d m x j)
   go_round
   case rel=>exact⟨k+1,l++[UInt8.ofNat (u % 256)],u / 256,qo,aA (by rw[aL,D.o];rfl),by go_num,by rw[<-ae.o],aj,aA (by rw[iZ,HQ.o];exact ah.o),ad⟩
   case measure=>simp[intOf];omega
  .obtain rfl:k=8:=qo;replace B:=qK B n.o;obtain⟨⟨B0,B1,B2,B3,B4,B5,B6,B7,B8,B9,aa,ab⟩,_⟩:=bK B.o;have zB:=aD B.o;go_wp2_with fail;refine(v.o wr).mono ?_;rintro e w2 ⟨f,A2,c2,rfl,S,V,_,a⟩;have G:=aA (lY F.o (aJ (ok:=fun _=>True) a) (fun _ _=>trivial));obtain⟨s,ai,t,ag⟩:=dH (aC n.o a) V S (uD f);have ak:Hid ((bF f).length=f.length * 1):=aA (by rw[uW,Nat.mul_one]);clear S V a B0 B1 B2 B3 B4 B5 B6 B7 B8 B9 aa ab zB;go_wp2_with (at_builtin;refine lW _ rfl (.tmp 16) (.tmp 18) 71 rfl W0.heap.size 5 i0 (.int .u8 0) 1 1 underlying71 J.o K.o L.o M.o rfl qe _ 8 _ rfl G.o w2.heap.size A2 f.length c2 (bF f) rfl ak.o ai.o ag.o (by have:=t.o;have:=H.o;unfold maxLen;omega) (qD t.o H.o) s.o.size ?_;intro v3 r d m x)
   have j:Below w.heap.size w r:=aC C.o (dY G.o s.o m (lR _) s.o.size);have af:Hid (∀(l:lU) A c,Ending.returned v3=.returned (.slice A l.length c)->8<=l.length):=aA (fun l A c e=>by
    injection e with e;have h:=d.2;rw[e] at h
    rcases h with ⟨h1,h2⟩|⟨g,cap,cur,h1,_⟩
    .omega
    .injection h1 with _ h1 _;omega)
   have HE:Hid (DE (328+o.text.size) w (.returned v3) r):=by
    have h9:(l++f).length=8+f.length:=by rw[aL,D.o]
    rw[<-iZ,<-h9] at d;exact aA (FM ⟨v3,rfl,tB d C.o.size,j⟩ (by rw[h9];have:=t.o;omega))
   clear d m x j;go_wp2;go_ret;exact⟨HE.o,af.o⟩
end
namespace Crc
def aDf:BitVec 32:=0xedb88320#32
def aDg:BitVec 32:=4294967295#32
def step(s:BitVec 32):BitVec 32:=if s.getLsbD 0 then (s >>> 1) ^^^ aDf else s >>> 1
def AF:Nat->BitVec 32->BitVec 32
 |0,s=>s
 |n+1,s=>AF n (step s)
def upd(s:BitVec 32)(c:BitVec 8):BitVec 32:=AF 8 (s ^^^ c.setWidth 32)
def Bf(s:BitVec 32)(l:List (BitVec 8)):BitVec 32:=l.foldl upd s
def sum(l:List (BitVec 8)):BitVec 32:= ~~~ (Bf aDg l)
theorem aDE:sum []=0#32:=qe
theorem aBC(m:Nat):∀n s,AF (m+n) s=AF n (AF m s):=by
 induction m with
 |zero=>intro n s;simp[AF]
 |succ m a=>intro n s;rw[Nat.succ_add];simp only[AF];exact a n _
end Crc
theorem UJ(s:BitVec 32)(l:List (BitVec 8))(k:Nat)(a:k<l.length):Crc.Bf s (l.take (k+1))=Crc.upd (Crc.Bf s (l.take k)) l[k]:=by
 rw[List.take_add_one,gE a];unfold Crc.Bf;rw[List.foldl_append];rfl
theorem Jc(n:Nat)(s:BitVec 32):Crc.AF (n+1) s=Crc.step (Crc.AF n s):=by
 rw[Crc.aBC];rfl
theorem Qd(s:BitVec 32)(l:lU)(k:Nat)(a:k<l.length):
 Crc.Bf s ((l.map (·.toBitVec)).take (k+1))=Crc.upd (Crc.Bf s ((l.map (·.toBitVec)).take k)) l[k].toBitVec:=by
 rw[UJ _ _ _ (by simpa using a)];simp
theorem Wf(a:oD)(cap n:Nat)(l:lU)(y:l.length=n)(w:World)(B:Nat)(C:l.length<=140737488351232)(r:Sl w B a (bF l)):
 Calls prog 109 #[.slice a n cap] w fun e w'=>e=.returned (.int .u32 (nK (Crc.sum (l.map (·.toBitVec)))))/\w=w':=by
 subst y;go_enter func109,ntmps109;go_wp2;go_loop [3,9] (fun s i=>∃k:Nat,k<=l.length/\i=.int .i64 k/\s=.int .u32 (nK (Crc.Bf Crc.aDg ((l.map (·.toBitVec)).take k)))) (fun _ i=>l.length - (intOf i).toNat)
 case atStart=>exact⟨0,Nat.zero_le _,rfl,rfl⟩
 case round=>
  obtain⟨k,A,rfl,rfl⟩:=hrel;by_cases q:k<l.length
  .obtain⟨b,off,rfl,_,f⟩:=r.byte q;have o:=aA (Qd Crc.aDg l k q);generalize Crc.Bf Crc.aDg ((l.map (·.toBitVec)).take k)=s at o ⊢;generalize l[k]=c at o f;have p:=Ox c;have g:=Ar;rw[p] at f;have v:=Hp (c.toBitVec.setWidth 32);have x:nK (c.toBitVec.setWidth 32)<256:=by rw[<-p];have:=c.toNat_lt;omega
   clear r p;go_wp2;go_loop [3,17] (fun t i=>∃j:Nat,j<=8/\i=.int .i64 j/\t=.int .u32 (nK (Crc.AF j (s ^^^ c.toBitVec.setWidth 32)))) (fun _ i=>8 - (intOf i).toNat)
   case atStart=>exact⟨0,qo,rfl,rfl⟩
   case round=>
    obtain⟨j,hj,rfl,rfl⟩:=hrel;by_cases z:j<8
    .have m:=aA (Jc j (s ^^^ c.toBitVec.setWidth 32));generalize Crc.AF j (s ^^^ c.toBitVec.setWidth 32)=t at m ⊢;have h3:bits .xor .u32 (nK (t >>> 1)) 3988292384=nK (t >>> 1 ^^^ Crc.aDf):=Ar _ Crc.aDf;have h1:=Oz t;have h4:=Hp t;clear g f v x
     cases d:t.getLsbD 0
     .rw[d] at h1;simp only[Bool.false_eq_true,if_false] at h1;go_wp2;go_round
      case rel=>exact⟨j+1,qo,by go_num,by rw[m.o,Crc.step,d,TI];rfl⟩
      case measure=>simp[intOf];omega
     .rw[d] at h1;simp only[if_true] at h1;go_wp2;go_round
      case rel=>exact⟨j+1,qo,by go_num,by rw[m.o,Crc.step,d,TI,h3];rfl⟩
      case measure=>simp[intOf];omega
    .obtain rfl:j=8:=qo;clear g f;go_wp2;go_round
     case rel=>exact⟨k+1,qo,by go_num,by rw[o.o];rfl⟩
     case measure=>simp[intOf];omega
  .have g:=Vk (Crc.Bf Crc.aDg ((l.map (·.toBitVec)).take k));obtain rfl:k=l.length:=qo;have e:(l.map (·.toBitVec)).take l.length=l.map (·.toBitVec):=List.take_of_length_le qs;rw[e] at g ⊢;go_wp2;go_ret;exact⟨rfl,rfl⟩
section
open Pv
def UK:Rep UInt8:=mS (fun c=>[.int .u8 (c.toNat:Int)]) (fun _=>True)
theorem UL:Firm UK 1:=gK (fun _=>rfl) (fun x v h=>by rw[List.mem_singleton.1 h];rfl)
theorem UM:∀{l:lU} {cs:List Value},aW (fun r x=>r=[.int .u8 ((x:UInt8).toNat:Int)]/\True) cs l->cs=bF l
 | [],cs,h=>h
 |x::l,cs,⟨r,t,e,hr,ht⟩=>by rw[e,hr.1,UM ht];rfl
theorem GU:∀(l:lU),aW (fun r x=>r=[.int .u8 ((x:UInt8).toNat:Int)]/\True) (bF l) l
 | []=>rfl
 |x::l=>⟨_,_,rfl,⟨rfl,trivial⟩,GU l⟩
theorem Zr{w:World}{ok:nP}{v:Value}{l:lU}(h:aH UK w ok v l):∃a c,v=.slice a l.length c/\jF w ok a (bF l)/\l.length<=1000000:=by
 obtain⟨a,c,cs,e,h1,h2,h3⟩:=h;rw[UM h2] at h1;exact⟨a,c,e,h1,h3⟩
theorem Zs{w:World}{ok:nP}{a:oD}{c:Nat}{l:lU}(h:jF w ok a (bF l))(b:l.length<=1000000):aH UK w ok (.slice a l.length c) l:=⟨a,c,bF l,rfl,h,GU l,b⟩
theorem Jd(n:Nat)(h0:0<n)(q:n<=2000000)(w:World):Calls prog 155 #[.slice none 0 0,.int .i64 n] w (fun e w'=>∃v,e=.returned v/\w'.ownsRow w.heap.size 5 1 v 0 []/\Below w.heap.size w w'):=by
 obtain⟨i0,f,i,m,j⟩:=info_parts vH;obtain⟨G,a⟩:=xE (grownCap w n 0 5);obtain⟨c,b⟩:=xE (w.drew.alloc (.cells (Builtin.zeroCells (Value.int .u8 0).cells n++Builtin.zeroCells (Value.int .u8 0).cells (G - n)) 5));have g:∀ty,(Builtin.append_ #[71,3] ty #[.slice none 0 0,.int .i64 n]).run prog w=.ok (.slice (some ⟨w.heap.size,0,none⟩) n G) c:=fun ty=>by
  rw[b,a];exact Lib.run_append_nil_zeros w 71 3 ty 5 i0 _ .i64 .i64 underlying71 (by kernel_rfl) f i n h0 qo qo (by rw[j];omega)
 have p:n<=G:=by rw[a];exact grownCap_ge w _ _ _
 have l:G<=maxLen:=by rw[a];exact grownCap_le_maxLen w n 0 _ (by unfold maxLen;omega)
 have d:Hid (c.ownsRow w.heap.size 5 1 (.slice (some ⟨w.heap.size,0,none⟩) 0 G) 0 []/\Below w.heap.size w c):=aA (by
  refine⟨⟨rfl,.inr ⟨w.heap.size,G,_,rfl,lR _,by rw[b];exact heap_alloc_new w.drew _,Nat.zero_le _,l,?_,rfl⟩⟩,?_⟩
  .simp only[Builtin.zeroCells,Array.size_append,Array.size_map,Array.size_range];simp[Value.cells];omega
  .have h:=aB w.drew (.cells (Builtin.zeroCells (Value.int .u8 0).cells n++Builtin.zeroCells (Value.int .u8 0).cells (G - n)) 5);rw[b];exact⟨h.os,h.tape,h.output,h.size,h.block⟩)
 have r:¬((n:Int)<0):=qo;have s:(0:Int)<(n:Int):=qo;have o:(0:Nat)<=G:=Nat.zero_le _;have k:=aA g;clear b a f i m j g;go_enter func155,ntmps155;go_wp2_with (at_builtin;refine Lib.wpList_append_run _ rfl _ _ _ _ rfl _ _ rfl rfl _ _ (k.o _) ?_)
 go_ret;exact⟨_,rfl,d.o.1,d.o.2⟩
def NR(n:Nat)(w:World)(e:Ending)(w':World):Prop:=∃(l:lU) (A:oD) (c:Nat),e=.returned (.slice A l.length c)/\l.length=n/\Sl w' w'.heap.size A (bF l)/\w'.ownsRow w.heap.size 5 1 (.slice A l.length c) l.length (bF l)/\Below w.heap.size w w'
theorem Bg{w:World}{l:lU}{n:Nat}{e:Ending}{w':World}(h:oW w l e w')(a:l.length=n):NR n w e w':=by
 obtain⟨A,c,h1,h2,h3,h4⟩:=qU h;exact⟨l,A,c,h1,a,h2,h3,h4⟩
def uL(L:List (List UInt8))(k:Nat):Nat:=((L.take k).map List.length).sum
theorem UN{L:List (List UInt8)}{k:Nat}(a:k<L.length):uL L (k+1)=uL L k+L[k].length:=by
 unfold uL;rw[List.take_succ_eq_append_getElem a,List.map_append,List.sum_append];simp
theorem Zt(L:List (List UInt8))(k:Nat):uL L k<=uL L L.length:=by
 unfold uL;rw[List.take_length]
 conv=>rhs;rw[<-List.take_append_drop k L,List.map_append,List.sum_append]
 omega
theorem KW{ok:nP}(v:Value)(L:List (List UInt8))(w:World)(h:aH (rows UK) w ok v L)(n:Nat)(O:uL L L.length=n)(h0:0<n)(hm:n<=2000000):Calls prog 106 #[v] w (NR n w):=by
 obtain⟨i0,N,S,T,U⟩:=info_parts vH;obtain⟨Hi,ad,ae,af⟩:=dH N S T U;obtain⟨a,c,rfl,al⟩:=h.slice;obtain⟨F,p,G,D,E⟩:=gJ h O (Zt L) (Jd n h0 hm w) hm;clear N S T U h O h0 hm;go_enter func106,ntmps106;go_wp2;go_loop [3,5,11] (fun z s i=>∃(k:Nat),k<=L.length/\i=.int .i64 k/\z=.int .i64 (uL L k:Nat)) (fun _ _ i=>L.length - (intOf i).toNat)
 case atStart=>exact⟨0,Nat.zero_le _,rfl,rfl⟩
 case round=>
  obtain⟨k,hk,rfl,rfl⟩:=hrel;by_cases j:k<L.length
  .have ai:(k:Int)<(L.length:Int):=qo;obtain⟨b,off,r,rfl,_,ah,⟨vk,rfl,o⟩,g⟩:=aH.at (rW UL) F.o j qe;obtain⟨H,I,rfl,aj⟩:=o.slice;have C:=g 0 _ rfl;rw[Nat.add_zero,Nat.mul_one] at C;have f:=aA (UN j);have B:=G.o (k+1);have q:Hid (uL L k+L[k].length<=2000000):=aA (by rw[<-f.o];have:=p.o;have:=E.o;omega);have an:(0:Int)<=(uL L k:Nat)+(L[k].length:Nat):=qo;have ao:¬(((uL L k:Nat):Int)+(L[k].length:Nat)<0):=qo;have aq:IntKind.i64.wrap (((uL L k:Nat):Int)+(L[k].length:Nat))=((uL L k:Nat):Int)+(L[k].length:Nat):=IntWalk.i64_in _ (qA q.o);generalize L[k].length=m at *;generalize uL L k=t at *;clear g o B;go_wp2;go_round
   case rel=>exact⟨k+1,qo,by go_num,by rw[f.o];go_num⟩
   case measure=>simp[intOf];omega
  .obtain rfl:k=L.length:=qo;rw[p.o];go_wp2_with fail;refine D.o.mono ?_;rintro e w1 ⟨v1,rfl,P,J⟩;have Y:=aA P;have V:=aA J;clear P J D;go_wp2;go_loopw [6,8,27] (fun z s i wr=>∃(k:Nat) (l:lU),k<=L.length/\i=.int .i64 k/\Hid (l.length=uL L k)/\Hid (wr.ownsRow w.heap.size 5 1 z l.length (bF l))/\Hid (Below w.heap.size w wr)) (fun _ _ i _=>L.length - (intOf i).toNat)
   case atStart=>exact⟨0,[],Nat.zero_le _,rfl,aA rfl,Y,V⟩
   case round=>
    obtain⟨k,l,hk,rfl,y,A,d⟩:=hrel;by_cases j:k<L.length
    .have ai:(k:Int)<(L.length:Int):=qo;obtain⟨b,off,r,rfl,_,ah,⟨vk,rfl,o⟩,g⟩:=aH.at (rW UL) (aH.on (rW UL) F.o d.o) j qe;obtain⟨H,I,rfl,R,aj⟩:=Zr o;have C:=g 0 _ rfl;rw[Nat.add_zero,Nat.mul_one] at C;have f:=aA (UN j);have B:=G.o (k+1);generalize L[k]=x at *;have q:Hid (l.length+x.length<=2000000):=aA (by rw[y.o,<-f.o];have:=p.o;have:=E.o;omega);have aa:=aA R.lt;have HV:Hid ((bF x).length=x.length * 1):=aA (by rw[uW,Nat.mul_one]);have ab:=aA (uD x);clear g o B R;go_wp2_with (at_builtin;refine lW _ rfl (.tmp 31) (.tmp 32) 71 rfl w.heap.size 5 i0 (.int .u8 0) 1 1 underlying71 Hi.o ad.o ae.o af.o rfl qe _ l.length _ rfl A.o wr.heap.size H x.length I (bF x) rfl HV.o aa.o ab.o (by have:=q.o;unfold maxLen;omega) (qA q.o) d.o.size ?_;intro v3 w3 Q M ag;have K:Below w.heap.size w w3:=dY A.o d.o M (lR _) d.o.size;have Z:=aA Q;have W:=aA K;clear Q M ag K)
     go_round
     case rel=>exact⟨k+1,l++x,qo,by go_num,aA (by rw[aL,y.o,f.o]),aA (by rw[aL,iZ];exact Z.o),W⟩
     case measure=>simp[intOf];omega
    .obtain rfl:k=L.length:=qo;have X:Hid (NR n w (.returned u6) wr):=aA (Bg ⟨_,rfl,A.o,d.o⟩ (y.o.trans p.o));go_wp2;go_ret;exact X.o
theorem UO{W:World}{g c:Nat}{cs:List Value}{t:TypeId}{L:List (List UInt8)}(b:W.heap[g]? =some (.cells cs.toArray t (0,0)))(a:aW (rows UK W (fun _=>True)) cs L)(e:L.length<=1000):aH (rows UK) W (fun _=>True) (.slice (some ⟨g,0,none⟩) L.length c) L:=
 ⟨_,_,cs,rfl,fun _=>⟨g,0,rfl,trivial,fun i x d=>by rw[Nat.zero_add];simp only[World.cell?,b];simpa using d⟩,a,qo⟩
theorem DG{W:World}{a:oD}{c:Nat}{l:lU}(d:Sl W W.heap.size a (bF l))(b:l.length<=1000000):rows UK W (fun _=>True) [.slice a l.length c] l:=⟨_,rfl,Zs ((jF.aE4 d).more fun _ _=>trivial) b⟩
theorem Qe(a:oD)(c:Nat)(l:lU)(w:World)(d:l.length<=1000000)(b:Sl w w.heap.size a (bF l)):Calls prog 109 #[.slice a l.length c] w (fun e w'=>∃h:BitVec 32,e=.returned (.int .u32 (nK h))/\w=w'):=
 (Wf a c l.length l rfl w w.heap.size qo b).mono fun e w' h=>⟨_,h⟩
theorem UP(h:BitVec 32)(w:World):Calls prog 108 #[.int .u32 (nK h)] w (NR 4 w):=by
 go_enter func108,ntmps108;go_wp2;go_ret;have hu:nK h=(h.toNat:Int):=rfl;rw[hu];generalize h.toNat=u;have e:(#[.int .u8 ((u:Int) % 256),.int .u8 ((u:Int) / 256 % 256),.int .u8 ((u:Int) / 65536 % 256),.int .u8 ((u:Int) / 16777216 % 256)]:Array Value).toList=bF [UInt8.ofNat (u % 256),UInt8.ofNat (u / 256 % 256),UInt8.ofNat (u / 65536 % 256),UInt8.ofNat (u / 16777216 % 256)]:=by
  show _=[Value.int .u8 ((UInt8.ofNat (u % 256)).toNat:Int),.int .u8 ((UInt8.ofNat (u / 256 % 256)).toNat:Int),.int .u8 ((UInt8.ofNat (u / 65536 % 256)).toNat:Int),.int .u8 ((UInt8.ofNat (u / 16777216 % 256)).toNat:Int)];rw[mJ _ qo,mJ _ qo,mJ _ qo,mJ _ qo];simp only[Int.natCast_emod,Int.natCast_ediv];rfl
 exact Bg (l:=[UInt8.ofNat (u % 256),UInt8.ofNat (u / 256 % 256),UInt8.ofNat (u / 65536 % 256),UInt8.ofNat (u / 16777216 % 256)]) ⟨.slice (some ⟨w.heap.size,0,none⟩) 4 4,rfl,⟨rfl,.inr ⟨w.heap.size,4,_,rfl,lR _,aK _ _ _ rfl,lR _,by unfold maxLen;omega,rfl,e⟩⟩,aB _ _⟩ rfl
theorem Je(a:oD)(c:Nat)(l:lU)(w:World)(C:l.length<=10000)(H:Sl w w.heap.size a (bF l)):Calls prog 47 #[.slice a l.length c] w (NR (8+l.length) w):=by
 have x:=aA H;have o:=aA C;have R:IntKind.u32.wrap (l.length:Int)=nK (BitVec.ofNat 32 l.length):=by
  show _=((BitVec.ofNat 32 l.length).toNat:Int);rw[BitVec.toNat_ofNat,IntKind.wrap_u32];omega
 have s:=aA (UP (BitVec.ofNat 32 l.length) w);generalize BitVec.ofNat 32 l.length=h1 at *;clear H C;go_enter func47,ntmps47;go_wp2_with fail;refine s.o.mono ?_;rintro e w1 ⟨f,i,c1,rfl,D,I,_,y⟩;obtain⟨t,N,k⟩:=aZ D I y;clear D I y s;go_wp2_with fail;refine(Qe a c l w1 (qA o.o) (x.o.on k.o)).mono ?_;rintro e S ⟨h2,rfl,rfl⟩;go_wp2_with fail;refine(UP h2 w1).mono ?_;rintro e w2 ⟨g,j,c2,rfl,E,J,_,z⟩;obtain⟨v,O,m⟩:=aZ E J z;clear E J z;obtain⟨p,d⟩:=xE (w2.alloc (.cells #[.slice i f.length c1,.slice j g.length c2,.slice a l.length c] 71));have b:Below w2.heap.size w2 p:=by rw[d];exact aB _ _
 have B:p.heap[w2.heap.size]? =some (.cells #[.slice i f.length c1,.slice j g.length c2,.slice a l.length c] 71 (0,0)):=by rw[d];exact aK _ _ _ rfl
 have n:=KW _ [f,g,l] p (UO (cs:=[.slice i f.length c1,.slice j g.length c2,.slice a l.length c]) (c:=3) B ⟨[_],_,rfl,DG ((N.o.on m.o).on b) (qA t.o),⟨[_],_,rfl,DG (O.o.on b) (qA v.o),⟨[_],[],rfl,DG (((x.o.on k.o).on m.o).on b) (qA o.o),rfl⟩⟩⟩ (by show 3<=1000;omega)) (8+l.length) (by simp only[uL,List.length_cons,List.length_nil,List.take_succ_cons,List.take_zero,List.map_cons,List.map_nil,List.sum_cons,List.sum_nil,t.o,v.o];omega) qo (qA o.o);obtain⟨n,r,P⟩:=aZ n (aC (aC k.o m.o) b) d;clear d b B;go_wp2_with fail;rw[<-P.o];refine n.o.mono ?_;rintro e Q ⟨L,q,c4,rfl,F,K,G,A⟩;have M:Hid (NR (8+l.length) w (.returned (.slice q L.length c4)) Q):=aA ⟨L,q,c4,rfl,F,K,tB G r.o.size,aC r.o A⟩;clear F K G A;go_wp2;go_ret;exact M.o
end
end Go.Proofs.YthcgdgkpgdjahaaGreatDoor
