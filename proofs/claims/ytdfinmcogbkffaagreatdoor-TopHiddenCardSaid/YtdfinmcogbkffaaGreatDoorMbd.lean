/- Lemmas. -/
import Derived.Test.YtdfinmcogbkffaaGreatDoorMbc
namespace Go.Proofs.YtdfinmcogbkffaaGreatDoor
open Go.RowKit
set_option linter.unusedVariables false
set_option linter.unusedSimpArgs false
set_option maxHeartbeats 16000000
open _root_.Go.Proofs.Tryz
set_option maxRecDepth 20000
def pE(b:Nat)(s t:WS):Prop:=t.met.length<=s.met.length+b/\t.aDB<=s.aDB+b
theorem pE.trans{a b:Nat}{s t u:WS}(h:pE a s t)(k:pE b t u):pE (a+b) s u:=⟨qD h.1 k.1,qD h.2 k.2⟩
theorem pE.more{a b:Nat}{s t:WS}(h:pE a s t)(k:a<=b):pE b s t:=⟨qA h.1,qA h.2⟩
theorem pE.refl(b:Nat)(s:WS):pE b s s:=⟨qo,qo⟩
theorem Ks(n:bY)(s:WS):pE 1 s (gP n s).2:=⟨QA n s,by rw[yC];omega⟩
theorem QC(r:Ru)(s:WS):pE 1 s (fS r s).2:=by
 have h:=QA r.id s;have h2:=yC r.id s;unfold fS;generalize gP r.id s=q at *;obtain⟨a,s1⟩:=q;simp only at h h2 ⊢;unfold pE;split
 .exact⟨h,by simp only;omega⟩
 split
 .exact⟨h,by simp only;omega⟩
 split
 .exact⟨h,by simp only;omega⟩
 split
 .exact⟨h,by simp only;omega⟩
 .exact⟨h,by simp only;omega⟩
theorem QD(p:Po)(s:WS):pE 1 s (fJ p s).2:=by
 have h:=Ks p.id s;unfold fJ;generalize gP p.id s=q at *;obtain⟨a,s1⟩:=q;simp only at h ⊢
 repeat' split
 all_goals exact h
theorem vJ{p:Po}{s:WS}(h:(fJ p s).1=0):p.aDB.length<=16/\p.aDN.length<=16:=by
 unfold fJ at h;generalize gP p.id s=q at *;obtain⟨b,s1⟩:=q;simp only at h;by_cases h1:b=false\/p.alg<1\/6<p.alg
 .rw[iP h1] at h;simp at h
 rw[iN h1] at h;by_cases h2:(p.set=true/\p.aDB≠[])\/(p.set=false/\(0<p.aDN.length\/p.alg=4))
 .rw[iP h2] at h;simp at h
 rw[iN h2] at h;by_cases h3:eY p.aDJ=0
 case neg=>rw[iP h3] at h;exact absurd h h3
 rw[iN (fun a=>a h3)] at h;by_cases h4:lD p.aDP=0
 case neg=>rw[iP h4] at h;exact absurd h h4
 rw[iN (fun a=>a h4)] at h;by_cases h5:16<p.aDB.length\/16<p.aDN.length
 .rw[iP h5] at h;simp at h
 .omega
theorem JF{α:Type}{f:α->WS->Int×WS}{b:Nat}(c:∀x s,pE b s (f x s).2):∀(l:List α) (s:WS),pE (l.length * b) s (jF f l s).2
 | [],s=>pE.refl _ s
 |x::l,s=>by
  have h1:=c x s;have h2:=JF c l (f x s).2;unfold jF;generalize f x s=q at *;obtain⟨e,s1⟩:=q;simp only at h1 h2 ⊢;have a:(x::l).length * b=b+l.length * b:=by rw[List.length_cons,Nat.add_mul];omega
  by_cases he:e≠0
  .rw[iP he];exact h1.more (by rw[a];omega)
  .rw[iN he,a];exact h1.trans h2
def kY:Nat->Nat
 |0=>0
 |n+1=>17+16 * kY n
theorem DU{n:Nat}{p:Po}{s:WS}(h:(fJ p s).1≠0):eP (n+1) p s=fJ p s:=by
 unfold eP;generalize fJ p s=q at *;obtain⟨e,s1⟩:=q;exact iP h
theorem BP{n:Nat}{p:Po}{s s1:WS}(h:fJ p s=(0,s1))(h1:(jF fS p.aDB s1).1≠0):eP (n+1) p s=jF fS p.aDB s1:=by
 unfold eP;rw[h];simp only[ne_eq,not_true_eq_false,if_false];generalize jF fS p.aDB s1=q at *;obtain⟨e,s2⟩:=q;exact iP h1
theorem DV{n:Nat}{p:Po}{s s1 s2:WS}(h:fJ p s=(0,s1))(h1:jF fS p.aDB s1=(0,s2)):eP (n+1) p s=jF (eP n) p.aDN s2:=by
 unfold eP;rw[h];simp only[ne_eq,not_true_eq_false,if_false];rw[h1];simp only[not_true_eq_false,if_false]
theorem GQ:∀(n:Nat) (p:Po) (s:WS),pE (kY n) s (eP n p s).2
 |0,p,s=>pE.refl _ s
 |n+1,p,s=>by
  have h1:=QD p s;have e:=vJ (p:=p) (s:=s);by_cases a:(fJ p s).1=0
  case neg=>rw[DU a];exact h1.more (by unfold kY;omega)
  obtain⟨g,f⟩:=e a;obtain⟨s1,b⟩:∃s1,fJ p s=(0,s1):=⟨_,Prod.ext a rfl⟩;rw[b] at h1;have h2:=JF QC p.aDB s1;by_cases c:(jF fS p.aDB s1).1=0
  case neg=>rw[BP b c];exact(h1.trans h2).more (by unfold kY;omega)
  obtain⟨s2,d⟩:∃s2,jF fS p.aDB s1=(0,s2):=⟨_,Prod.ext c rfl⟩;rw[d] at h2;rw[DV b d];refine((h1.trans h2).trans (JF (GQ n) p.aDN s2)).more ?_;have:=Nat.mul_le_mul_right (kY n) f;show 1+p.aDB.length * 1+p.aDN.length * kY n<=17+16 * kY n;omega
section
variable {α:Type} {f:α->WS->Int×WS} {l:List α} {k:Nat} {s:WS} {res:Int×WS}
theorem QE(a:k<l.length)(h:jF f (l.drop k) s=res)(h1:(f l[k] s).1≠0):res=f l[k] s:=by
 rw[<-h,List.drop_eq_getElem_cons a];unfold jF;generalize f l[k] s=q at *;obtain⟨e,s1⟩:=q;exact iP h1
theorem Ba{s1:WS}(a:k<l.length)(h:jF f (l.drop k) s=res)(h1:f l[k] s=(0,s1)):jF f (l.drop (k+1)) s1=res:=by
 rw[<-h,List.drop_eq_getElem_cons a]
 conv=>rhs;unfold jF
 rw[h1];simp only[ne_eq,not_true_eq_false,if_false]
theorem VV(h:jF f (l.drop l.length) s=res):res=(0,s):=by
 rw[<-h,List.drop_length];rfl
end
def Fb(n:Nat):Prop:=∀(d:Int),d=5 - (n:Int)->∀(m:Nat) (ok:nP) (p:Po) (vt vr vk vo:Value) (mb g:Nat) (s:WS) (w:World),s.met.length+kY n<=1000000->s.aDB+kY n<=1000000->NW w mb g s->fO m w ok p vt vr vk vo->(∀b,ok b->b≠g/\b≠mb)->
 Calls prog 128 #[.pointer (some ⟨g,0,none⟩),.agg #[.string p.id,.bool p.set,.int .i64 p.alg,vt,vr,vk,vo],.int .i64 d] w (oL w mb g (eP n p s).2 (.int .i64 (eP n p s).1))
theorem Kt:Fb 0:=fun d l m ok p vt vr vk vo mb g s w hm o h hp n=>by
 obtain⟨f,i,rfl,_⟩:=hp.2.2.1.slice;obtain⟨ra,rc,rfl,r⟩:=hp.2.2.2.1.slice;obtain⟨a,b,rfl,q⟩:=hp.2.2.2.2.1.slice;obtain⟨c,e,rfl,_⟩:=hp.2.2.2.2.2.slice;have k:=aA (h.on (aB w (.cells #[.string p.id,.bool p.set,.int .i64 p.alg,.slice f p.aDJ.length i,.slice ra p.aDB.length rc,.slice a p.aDN.length b,.slice c p.aDP.length e] 56)));have j:=aA (aB w (.cells #[.string p.id,.bool p.set,.int .i64 p.alg,.slice f p.aDJ.length i,.slice ra p.aDB.length rc,.slice a p.aDN.length b,.slice c p.aDP.length e] 56));obtain rfl:d=5:=qo;unfold oL eP;clear h hp n hm o l;go_enter func128,ntmps128;go_wp2;go_returns;exact⟨rfl,k.o,aJ j.o⟩
theorem Ku(n:Nat)(hn:n<=3)(HI:Fb n):Fb (n+1):=fun d hd m ok p vt vr vk vo mb g s w hm hr h hp ho=>by
 have bu:=h.lt;have bw:=h.ltm;obtain⟨ta,tc,rfl,_⟩:=hp.2.2.1.slice;obtain⟨ra,rc,rfl,bt⟩:=hp.2.2.2.1.slice;obtain⟨ka,kc,rfl,bs⟩:=hp.2.2.2.2.1.slice;obtain⟨oa,oc,rfl,_⟩:=hp.2.2.2.2.2.slice;have bg:s.met.length+(17+16 * kY n)<=1000000:=hm;have bh:s.aDB+(17+16 * kY n)<=1000000:=hr;obtain⟨bd,be,B0,ae,HP,HO,H⟩:=hD7 bg bh (aK w (.cells #[.string p.id,.bool p.set,.int .i64 p.alg,.slice ta p.aDJ.length tc,.slice ra p.aDB.length rc,.slice ka p.aDN.length kc,.slice oa p.aDP.length oc] 56) _ rfl) (aB w (.cells #[.string p.id,.bool p.set,.int .i64 p.alg,.slice ta p.aDJ.length tc,.slice ra p.aDB.length rc,.slice ka p.aDN.length kc,.slice oa p.aDP.length oc] 56)) hp ho (Qr p _ _ _ _ mb g s qo _ (h.on (aB w (.cells #[.string p.id,.bool p.set,.int .i64 p.alg,.slice ta p.aDJ.length tc,.slice ra p.aDB.length rc,.slice ka p.aDN.length kc,.slice oa p.aDP.length oc] 56))) (hp.aDH (aJ (aB w (.cells #[.string p.id,.bool p.set,.int .i64 p.alg,.slice ta p.aDJ.length tc,.slice ra p.aDB.length rc,.slice ka p.aDN.length kc,.slice oa p.aDP.length oc] 56)))) ho);have W:=QD p s;have d4:decide (d > 4)=false:=dF qo;have bm:=aA HI;have HD:=aA hd;obtain⟨d2,aq⟩:=xE (d+1);have e1:IntKind.i64.wrap (d+1)=d2:=by rw[IntWalk.i64_in _ qo];exact aq.symm
 have bj:=aA aq;unfold oL at H ⊢;clear h hp ho hm hr bg bh hd aq HI;by_cases O:(fJ p s).1=0
 case neg=>
  rw[DU O];have dh:((fJ p s).1 != 0)=true:=bne_iff_ne.2 O;clear O W;generalize fJ p s=q at *;obtain⟨e,s1⟩:=q;simp only at H dh ⊢;go_enter func128,ntmps128;go_wp2_with fail;refine H.o.mono ?_;rintro e w1 ⟨rfl,f,a⟩;have aa:=aA f;have Z:=aA ((aJ ae.o).trans a);clear f a H;go_wp2;go_returns;exact⟨rfl,aa.o,Z.o⟩
 have hlen:=vJ O;obtain⟨s1,ad⟩:∃s1,fJ p s=(0,s1):=⟨_,Prod.ext O rfl⟩;rw[ad] at H W;simp only at H W;have af:=aA W;obtain⟨br,ab⟩:=xE (eP (n+1) p s);rw[<-ab];have ai:=aA (fun h1=>ab.trans (BP (n:=n) ad h1));have ag:=aA (fun s2 h1=>ab.trans (DV (n:=n) (s2:=s2) ad h1));obtain⟨bz,bx⟩:=hlen;clear ab ad O W;obtain⟨R1,an⟩:=xE (jF fS p.aDB s1);rw[<-an] at ai ag;have U:Hid (jF fS (p.aDB.drop 0) s1=R1):=aA (by rw[List.drop_zero];exact an.symm);clear an;go_enter func128,ntmps128;go_wp2_with fail;refine H.o.mono ?_;rintro e w1 ⟨rfl,f,a⟩;obtain⟨aa,Z,B1⟩:=aY f ((aJ ae.o).trans a) (aF B0.o a ⟨qo,qo⟩);obtain⟨⟨x,D,E,F,G,Q,R⟩,_⟩:=bI B1.o;have hz:=aD B1.o;clear f a H B0 ae;go_wp2;clear x D E F G Q R hz;go_loopw [25] (fun i wr=>∃(k:Nat) (j:WS),k<=p.aDB.length/\i=.int .i64 k/\Hid (jF fS (p.aDB.drop k) j=R1)/\Hid (pE k s1 j)/\Hid (NW wr mb g j)/\Hid (aN (fun b=>b≠g/\b≠mb) w wr)/\Hid (aN (fun b=>b≠g/\b≠mb) w1 wr)) (fun i _=>p.aDB.length - (intOf i).toNat)
 case atStart=>exact⟨0,s1,Nat.zero_le _,rfl,U,aA (pE.refl _ _),aa,Z,aA (aN.refl _ _)⟩
 case round=>
  clear U aa Z;obtain⟨k,j,hk,rfl,v,l,A,o,T⟩:=hrel;by_cases M:k<p.aDB.length
  .have bp:(k:Int)<(p.aDB.length:Int):=qo;obtain⟨b,off,rr,rfl,_,bo,⟨b5,b0,b2,rfl,X⟩,V⟩:=aH.at bM (HP.o.aDH (o.o.mono fun b _ hb=>HO.o b hb)).2.2.2.1 M qe;have K:=aA (fun h1=>QE M v.o h1);have I:=aA (fun s1 h1=>Ba (s1:=s1) M v.o h1);have t:=aA (QC p.aDB[k] j);obtain⟨a7,ba,rfl,_⟩:=X.2.1.slice;obtain⟨ak,al,rfl,_⟩:=X.2.2.1.slice;obtain⟨aw,ay,rfl,_⟩:=X.2.2.2.slice;obtain⟨x,D,E,F,G⟩:=JW V;rw[Nat.add_zero] at x;clear V v;generalize p.aDB[k]=r at *;have c:=aA (Kr r _ _ _ mb g j (qF l.o.1 af.o.1 bd.o) (qF l.o.2 af.o.2 be.o) _ (A.o.on (aB wr (.cells #[.string r.id,.bool r.aEa,.slice a7 r.aDJ.length ba,.slice ak r.cond.length al,.slice aw r.aDP.length ay] 260))) (X.aDH (aJ (aB wr (.cells #[.string r.id,.bool r.aEa,.slice a7 r.aDJ.length ba,.slice ak r.cond.length al,.slice aw r.aDP.length ay] 260)))) HO.o);have z:=aA (aB wr (.cells #[.string r.id,.bool r.aEa,.slice a7 r.aDJ.length ba,.slice ak r.cond.length al,.slice aw r.aDP.length ay] 260));unfold oL at c;clear X;by_cases he:(fS r j).1=0
   .obtain⟨B,N⟩:∃B,fS r j=(0,B):=⟨_,Prod.ext he rfl⟩;have ah:=aA (I.o _ N);rw[N] at c t;simp only at c t;have Y:=aA (l.o.trans t.o);clear K I t he N l A;go_wp2_with fail;refine c.o.mono ?_;rintro e w2 ⟨rfl,f,a⟩;obtain⟨L,J,bn⟩:=aY f ((o.o.trans (aJ z.o)).trans a) ((T.o.trans (aJ z.o)).trans a);clear f a c z o T x D E F G;go_wp2;go_roundw
    case rel=>exact⟨k+1,B,qo,by go_num,ah,Y,L,J,bn⟩
    case measure=>simp[intOf];omega
   .have ar:=K.o he;have S:=aA (ai.o (by rw[ar];exact he));have aj:=aA ar;have de:((fS r j).1 != 0)=true:=bne_iff_ne.2 he;clear K I t he ar l A;generalize fS r j=q at *;obtain⟨e0,B⟩:=q;simp only at c de;go_wp2_with fail;refine c.o.mono ?_;rintro e w2 ⟨rfl,f,a⟩;have L:=aA f;have J:=aA ((o.o.trans (aJ z.o)).trans a);clear f a c z o T x D E F G;go_wp2;go_returns;rw[S.o,aj.o];exact⟨rfl,L.o,J.o⟩
  .have bp:¬(k:Int)<(p.aDB.length:Int):=qo;obtain rfl:k=p.aDB.length:=qo;have S:=aA (ag.o j (VV v.o));obtain⟨R2,ao⟩:=xE (jF (eP n) p.aDN j);rw[<-ao] at S;have U:Hid (jF (eP n) (p.aDN.drop 0) j=R2):=aA (by rw[List.drop_zero];exact ao.symm);have Y:=aA (af.o.trans l.o);clear ao ai ag v l;have B2:=qS B1 T.o ⟨qo,qo⟩;obtain⟨⟨x,D,E,F,G,Q,R⟩,_⟩:=bI B2.o;have hz:=aD B2.o;clear T
   rename World=>wx
   go_wp2;clear x D E F G Q R hz;go_loopw [39] (fun i wr=>∃(k:Nat) (C:WS),k<=p.aDN.length/\i=.int .i64 k/\Hid (jF (eP n) (p.aDN.drop k) C=R2)/\Hid (pE (k * kY n) j C)/\Hid (NW wr mb g C)/\Hid (aN (fun b=>b≠g/\b≠mb) w wr)) (fun i _=>p.aDN.length - (intOf i).toNat)
   case atStart=>exact⟨0,j,Nat.zero_le _,rfl,U,aA (pE.refl _ _),A,o⟩
   case round=>
    clear U A o;obtain⟨k,C,hk,rfl,v,l,A,o⟩:=hrel;by_cases M:k<p.aDN.length
    .have bq:(k:Int)<(p.aDN.length:Int):=qo;have hbound:(k+1) * kY n<=16 * kY n:=Nat.mul_le_mul_right _ qo;have bc:=aA hbound;clear hbound;obtain⟨b,off,rr,rfl,_,bo,bf,V⟩:=aH.at (bB m) (HP.o.aDH (o.o.mono fun b _ hb=>HO.o b hb)).2.2.2.2.1 M qe
     rcases m with _|m
     .exact bf.elim
     obtain⟨b6,b4,b1,b3,rfl,P⟩:=bf;have K:=aA (fun h1=>QE M v.o h1);have I:=aA (fun s1 h1=>Ba (s1:=s1) M v.o h1);have t:=aA (GQ n p.aDN[k] C);obtain⟨a8,bb,rfl,_⟩:=P.2.2.1.slice;obtain⟨a1,a6,rfl,_⟩:=P.2.2.2.1.slice;obtain⟨au,av,rfl,_⟩:=P.2.2.2.2.1.slice;obtain⟨ax,az,rfl,_⟩:=P.2.2.2.2.2.slice;obtain⟨x,D,E,F,G,Q,R⟩:=CJ V;rw[Nat.add_zero] at x;clear V v;generalize p.aDN[k]=y at *;have c:=aA (bm.o d2 (qD HD.o bj.o) m ok y _ _ _ _ mb g C _ (by have:=l.o.1;have:=Y.o.1;have:=bd.o;have:=bc.o;rw[Nat.add_mul] at this;omega) (by have:=l.o.2;have:=Y.o.2;have:=be.o;have:=bc.o;rw[Nat.add_mul] at this;omega) (A.o.on (aB wr (.cells #[.string y.id,.bool y.set,.int .i64 y.alg,.slice a8 y.aDJ.length bb,.slice a1 y.aDB.length a6,.slice au y.aDN.length av,.slice ax y.aDP.length az] 56))) ((show fO m _ ok y _ _ _ _ from P).aDH (aJ (aB wr (.cells #[.string y.id,.bool y.set,.int .i64 y.alg,.slice a8 y.aDJ.length bb,.slice a1 y.aDB.length a6,.slice au y.aDN.length av,.slice ax y.aDP.length az] 56)))) HO.o);have z:=aA (aB wr (.cells #[.string y.id,.bool y.set,.int .i64 y.alg,.slice a8 y.aDJ.length bb,.slice a1 y.aDB.length a6,.slice au y.aDN.length av,.slice ax y.aDP.length az] 56));unfold oL at c;clear P;by_cases he:(eP n y C).1=0
     .obtain⟨B,N⟩:∃B,eP n y C=(0,B):=⟨_,Prod.ext he rfl⟩;have ah:=aA (I.o _ N);rw[N] at c t;simp only at c t;have bl:Hid (pE ((k+1) * kY n) j B):=aA (by rw[Nat.add_mul,Nat.one_mul];exact l.o.trans t.o);clear K I t he N l A;go_wp2_with fail;refine c.o.mono ?_;rintro e w2 ⟨rfl,f,a⟩;have L:=aA f;have J:=aA ((o.o.trans (aJ z.o)).trans a);clear f a c z o x D E F G Q R;go_wp2;go_roundw
      case rel=>exact⟨k+1,B,qo,by go_num,ah,bl,L,J⟩
      case measure=>simp[intOf];omega
     .have aj:=aA (K.o he);have de:((eP n y C).1 != 0)=true:=bne_iff_ne.2 he;clear K I t he l A;generalize eP n y C=q at *;obtain⟨e0,B⟩:=q;simp only at c de;go_wp2_with fail;refine c.o.mono ?_;rintro e w2 ⟨rfl,f,a⟩;have L:=aA f;have J:=aA ((o.o.trans (aJ z.o)).trans a);clear f a c z o x D E F G Q R;go_wp2;go_returns;rw[S.o,aj.o];exact⟨rfl,L.o,J.o⟩
    .have bq:¬(k:Int)<(p.aDN.length:Int):=qo;obtain rfl:k=p.aDN.length:=qo;have bk:=aA (VV v.o);clear v l;go_wp2;go_returns;rw[S.o,bk.o];exact⟨rfl,A.o,o.o⟩
theorem VW:∀n,n<=4->Fb n
 |0,_=>Kt
 |n+1,h=>Ku n qo (VW n qo)
section
open Go.Maps
theorem sE{ok:nP}{m:Nat}(p:Po)(vt vr vk vo:Value)(w:World)(hp:fO m w ok p vt vr vk vo):Calls prog 69 #[.agg #[.string p.id,.bool p.set,.int .i64 p.alg,vt,vr,vk,vo]] w (aP (.int .i64 (fA p)) w):=by
 obtain⟨A,B,rfl,_⟩:=hp.2.2.1.slice;obtain⟨ra,rc,rfl,D⟩:=hp.2.2.2.1.slice;obtain⟨v,x,rfl,C⟩:=hp.2.2.2.2.1.slice;obtain⟨y,z,rfl,_⟩:=hp.2.2.2.2.2.slice;have E:= @run_makeMap prog;obtain⟨w1,f⟩:=xE (w.alloc (.cells (kL p A B ra rc v x y z) 56));have l:Below w.heap.size w w1:=by rw[f];exact aB _ _
 have d:w1.heap.size=w.heap.size+1:=by rw[f];simp
 have n:=World.ownsMap_made (H:=Unit) w1 prog 9 unitElem;have g:Hid (NW ((w1.alloc (.map #[] 0)).alloc (.cells #[.map (some (w.heap.size+1)),.int .i64 0] 215)) (w.heap.size+1) (w.heap.size+2) ⟨[],0⟩):=aA (by
  refine⟨aK _ _ _ (by simp[d]),qo,.map [],?_,fun t=>by simp[Maps.has]⟩;rw[<-d];exact n.alloc _)
 have a:Hid (Below w.heap.size w ((w1.alloc (.map #[] 0)).alloc (.cells #[.map (some (w.heap.size+1)),.int .i64 0] 215))):=aA ((l.alloc qo _).alloc (by simp[d];omega) _);have i:=aA (hp.inb.aDH (aJ a.o));have c:=aA (VW 4 (lR _) 1 qo m _ p _ _ _ _ (w.heap.size+1) (w.heap.size+2) ⟨[],0⟩ _ qe qe g.o i.o (fun b j=>⟨qA j.2,qA j.2⟩));rw[f] at c a;unfold oL at c;unfold aP fA;generalize eP 4 p ⟨[],0⟩=q at *;clear hp g i n l d f;go_enter func69,ntmps69;go_wp2_with fail;refine c.o.mono ?_;rintro e w2 ⟨rfl,_,o⟩;have r:=aA (a.o.trans (o.below (fun k s=>⟨lL s a.o.size,qo,qo⟩)));clear o c a;go_wp2;go_returns;exact⟨rfl,r.o⟩
end
theorem LB(s:bY)(w:World)(a:gX w):Calls prog 51 #[.string s] w (yQ s.data.toList w):=by
 by_cases c:s.size<=4096
 .exact Ao s c w a
 have b:jP s.data.toList=([],6,4096):=by
  unfold jP;rw[iP (by rw[Array.length_toList];show 4096<s.size;omega)]
 unfold yQ;rw[b];have d:decide ((s.size:Int) > 4096)=true:=dX qo;have d2:4096<s.size:=qo;clear b c a;go_enter func51,ntmps51;go_wp2;refine uU 0 (fun _ _=>False) (fun _ _=>0) rfl (fun _ _ h=>h.elim) ?_;intro _;go_wp2;simp only[Exit.jump];go_ret3
 exact⟨_,rfl,aH.nil,Below.refl _ _⟩
theorem QAG{p:Prop}(h:p:=by
 clear hb_ HRI c0 c1 c2 c3 c4 y0 y1 y2 y3 y4 y5 y6;obtain⟨A2_,c2_,c0,c1,c2,c3,c4,_⟩:=HP7.o.cells;rw[HBD.o] at c3;obtain⟨⟨y0,y1,y2,y3,y4,y5,y6⟩,_⟩:=bI BO7.o;obtain⟨⟨x0,x1,x2,x3,x4,x5,x6⟩,f0,f1,f2,f3,f4,f5,f6⟩:=bI B7.o;have hyl:=aD BO7.o;have HOX:=aA (HO7.o.more (ok':=fun b=>w.heap.size<b) (fun b hb=>hb.1));go_wp2;refine bR (.tuple #[.agg #[.string out.id,.bool out.set,.int .i64 out.alg,.slice ta out.aDJ.length tc,.slice ra out.aDB.length rc,.slice ka out.aDN.length kc,.slice oa out.aDP.length oc],.int .i64 0,.int .i64 0]) ?_;rw[HV.o];refine⟨_,rfl,⟨_,_,_,_,rfl,(HOX.o.set.set.set.set.set.set.set).more (fun b hb=>Nat.le_of_lt hb)⟩,?_⟩;exact(((((((HB7.o.setCell (lR _) _).setCell (lR _) _).setCell (lR _) _).setCell (lR _) _).setCell (lR _) _).setCell (lR _) _).setCell (lR _) _)):p:=h
theorem QAy{p:Prop}(h:p:=by
 clear hb_ HRI c0 c1 c2 c3 c4 y0 y1 y2 y3 y4 y5 y6;go_wp2_with fail;refine(HWA.o _ _ HP7.o).mono ?_;rintro e w8 ⟨rfl,h_,k_⟩;have HB8:=aA (HB7.o.trans (k_.below (fun k hk=>⟨lL hk HB7.o.size,qo⟩)));have B8:=qS B7 k_ qo;have HP8:=aA h_;clear h_ k_ HWA HP7 B7 HB7;obtain⟨A2_,c2_,c0,c1,c2,c3,c4,_⟩:=HP8.o.cells;rw[HWR.o.1] at c3;rw[HWR.o.2] at c4;have hgl8:=HP8.o.lt;obtain⟨⟨x0,x1,x2,x3,x4,x5,x6⟩,f0,f1,f2,f3,f4,f5,f6⟩:=bI B8.o;go_wp2;go_region
 all_goals
  go_wp2;refine bR (.tuple #[.agg #[.string ⟨#[]⟩,.bool false,.int .i64 0,.slice none 0 0,.slice none 0 0,.slice none 0 0,.slice none 0 0],.int .i64 (5),.int .i64 ((S.size:Int))]) ?_;rw[HV.o];refine⟨_,rfl,⟨_,_,_,_,rfl,FE _ _⟩,?_⟩
  first
   |exact(((((((HB8.o.setCell (lR _) _).setCell (lR _) _).setCell (lR _) _).setCell (lR _) _).setCell (lR _) _).setCell (lR _) _).setCell (lR _) _).drew
   |exact(((((((HB8.o.drew.setCell (lR _) _).setCell (lR _) _).setCell (lR _) _).setCell (lR _) _).setCell (lR _) _).setCell (lR _) _).setCell (lR _) _)):p:=h
def Bb(l:List Tok)(p:PS):PS:=if (aU l p).aDy≠7 then dL l p else p
def wS(S:bY)(out:Po)(a:PS):PS:=if a.bad=0/\fA out≠0 then eQ 5 S.size a else a
def uW(out:Po)(a:PS):Po×Int×Int:=if a.bad≠0 then (mE,a.bad,a.place) else (out,0,0)
theorem VX{S:bY}{l:List Tok}{e place:Int}(h:jP S.data.toList=(l,e,place))(h1:e≠0):fG S=(mE,e,place):=by
 unfold fG;rw[h];exact iP h1
theorem QF{S:bY}{l:List Tok}{place:Int}(h:jP S.data.toList=(l,0,place)):fG S=uW (cP l 3 ⟨0,0,0,0⟩).1 (wS S (cP l 3 ⟨0,0,0,0⟩).1 (Bb l (cP l 3 ⟨0,0,0,0⟩).2)):=by
 unfold fG;rw[h];rfl
theorem FE(w:World)(ok:nP):fO 3 w ok mE (.slice none 0 0) (.slice none 0 0) (.slice none 0 0) (.slice none 0 0):=⟨qe,by unfold bK;decide,aH.nil,aH.nil,aH.nil,aH.nil⟩
theorem Qs(a b c:Int)(s:bY)(w:World):(Instr.field 124 (.agg #[.int .i64 a,.int .i64 b,.int .i64 c,.string s]) 0).run prog w=.ok (.int .i64 a) w:=by kernel_rfl
theorem fO.set{n g i:Nat}{w:World}{x:Value}{p:Po}{vt vr vk vo:Value}(h:fO n w (fun b=>g<b) p vt vr vk vo):fO n (w.setCell ⟨g,i,none⟩ x) (fun b=>g<b) p vt vr vk vo:=h.aDH ((aI x).mono fun k _ a=>by have:g<k:=a;show k≠g;omega)
def vK(S:bY)(w:World)(e:Ending)(w':World):Prop:=
 ∃v,e=.returned (.tuple #[v,.int .i64 (fG S).2.1,.int .i64 (fG S).2.2])/\PoV 3 w' (fun b=>w.heap.size<=b) v (fG S).1/\Below w.heap.size w w'
theorem sF(S:bY)(w:World)(hg:gX w):Calls prog 27 #[.string S] w (vK S w):=by
 have n:=aA (fun w h=>LB S w h);have T:=aA hg;unfold yQ at n;unfold vK;obtain⟨L,W,ah,o⟩:∃L e pl,jP S.data.toList=(L,e,pl):=⟨_,_,_,rfl⟩;rw[o] at n;simp only at n;clear hg;by_cases he:W=0
 case neg=>
  rw[VX o he];have d:(W != 0)=true:=bne_iff_ne.2 he;clear o he;go_enter func27,ntmps27;go_wp2_with fail;refine(n.o _ (T.o.on (aB _ _))).mono ?_;rintro e w1 ⟨v,rfl,i,hb_⟩;obtain⟨m,y,E⟩:=aY (aE (aK w (.cells wJ 56) _ rfl) hb_) (aC (aB w (.cells wJ 56)) hb_) i;obtain⟨la,lc,rfl,ab⟩:=i.slice;clear i hb_ n;obtain⟨⟨x0,x1,x2,x3,x4,x5,x6⟩,f0,f1,f2,f3,f4,f5,f6⟩:=bI m.o;go_wp2;refine bR (.tuple #[.agg #[.string ⟨#[]⟩,.bool false,.int .i64 0,.slice none 0 0,.slice none 0 0,.slice none 0 0,.slice none 0 0],.int .i64 W,.int .i64 ah]) ?_;refine⟨_,rfl,⟨_,_,_,_,rfl,FE _ _⟩,?_⟩;exact((((((y.o.setCell (lR _) _).setCell (lR _) _).setCell (lR _) _).setCell (lR _) _).setCell (lR _) _).setCell (lR _) _).setCell (lR _) _
 subst he;rw[QF o];obtain⟨P,X⟩:Toks L/\0<L.length:=by have h:=TD (l:=S.data.toList) (by rw[o]);rw[o] at h;exact h
 have hM:AP L:=by have h:=Kf (l:=S.data.toList) (by rw[o]);rw[o] at h;exact h
 have U:=aA (rU P 3 (p:=⟨0,0,0,0⟩) X);have Z:=aA P.len;have D:=aA (fun g w h=>KY P hM 3 (lR _) 1 qe ⟨0,0,0,0⟩ g w X (Nat.zero_le _) h);unfold wP at D;generalize cP L 3 ⟨0,0,0,0⟩=q at *;obtain⟨out,p⟩:=q;simp only at D U ⊢;have G:=aA (fun g w h=>gJ U.o.lt Z.o g w h);have V:=aA (fun g w h=>lX U.o.lt Z.o g w h);unfold aP iC at G;unfold eT at V;clear o P hM X;have ai:=Qs (aU L p).aDy (aU L p).at_ (aU L p).num (aU L p).str;by_cases hk:(aU L p).aDy=7
 .have K:Bb L p=p:=iN (fun h=>h hk);have dk:((aU L p).aDy != 7)=false:=by rw[hk];rfl
  rw[K];clear K hk;go_enter func27,ntmps27;go_wp2_with fail;refine(n.o _ (T.o.on (aB _ _))).mono ?_;rintro e w1 ⟨v,rfl,i,hb_⟩;obtain⟨m,y,E⟩:=aY (aE (aK w (.cells wJ 56) _ rfl) hb_) (aC (aB w (.cells wJ 56)) hb_) i;obtain⟨la,lc,rfl,ab⟩:=i.slice;clear i hb_ n;have af:=aD m.o;have J:Hid (PW L (w1.alloc (.cells #[.slice la L.length lc,.int .i64 0,.int .i64 0,.int .i64 0,.int .i64 0] 142)) w1.heap.size ⟨0,0,0,0⟩):=aA ⟨la,lc,aK _ _ _ rfl,((E.o.inb iB).on iB (aB _ _)).more iB (fun b hb=>hb.2)⟩;have z:=qB y (aB w1 (.cells #[.slice la L.length lc,.int .i64 0,.int .i64 0,.int .i64 0,.int .i64 0] 142));go_wp2_with fail;refine(D.o _ _ J.o).mono ?_;rintro e j ⟨vt,vr,vk,vo,rfl,c,M,k_⟩;obtain⟨ta,tc,rfl,_⟩:=c.2.2.1.slice;obtain⟨ra,rc,rfl,_⟩:=c.2.2.2.1.slice;obtain⟨ka,kc,rfl,_⟩:=c.2.2.2.2.1.slice;obtain⟨oa,oc,rfl,_⟩:=c.2.2.2.2.2.slice;have s:=aA (aF (aE m.o (aB w1 (.cells #[.slice la L.length lc,.int .i64 0,.int .i64 0,.int .i64 0,.int .i64 0] 142))) k_ qo);have F:=aA (z.o.trans (k_.below (fun k hk=>⟨lL hk z.o.size,qo⟩)));have A:=aA M;have H:=aA (c.more (ok':=fun b=>w.heap.size<b/\b≠w1.heap.size) (fun b hb=>by have h9:(w1.alloc _).heap.size<=b:=hb;rw[World.size_alloc] at h9;exact⟨by show w.heap.size<b;omega,by show b≠w1.heap.size;omega⟩));have ag:=aD s.o;have ad:=A.o.lt;clear c M k_ D J z m y E;have B:=aA (A.o.on (aB j (.cells (kL out ta tc ra rc ka kc oa oc) 56)));go_wp2_with fail;refine(G.o _ _ B.o).mono ?_;rintro e w5 ⟨rfl,hb_⟩;obtain⟨C,I,t,x,r⟩:=gD (B.o.on hb_) ((H.o.aDH (aJ (aB j (.cells (kL out ta tc ra rc ka kc oa oc) 56)))).aDH (aJ hb_)) (aE (aE s.o (aB j (.cells (kL out ta tc ra rc ka kc oa oc) 56))) hb_) (aE (aK j (.cells (kL out ta tc ra rc ka kc oa oc) 56) _ rfl) hb_) (aC (aC F.o (aB j (.cells (kL out ta tc ra rc ka kc oa oc) 56))) hb_)
  clear hb_ G B A H s F;obtain⟨A_,c_,c0,c1,c2,c3,c4,_⟩:=C.o.cells;obtain⟨⟨y0,y1,y2,y3,y4,y5,y6⟩,_⟩:=bI x.o;have ae:=C.o.lt;have hyl:=aD x.o;by_cases hb:p.bad=0
  case neg=>
   have HV:Hid (uW out (wS S out p)=(mE,p.bad,p.place)):=aA (by unfold wS;rw[iN (fun h=>hb h.1)];exact iP hb);have d1:(p.bad==0)=false:=bN.2 hb;have d2:(p.bad != 0)=true:=bne_iff_ne.2 hb;clear hb;obtain⟨⟨x0,x1,x2,x3,x4,x5,x6⟩,f0,f1,f2,f3,f4,f5,f6⟩:=bI t.o;go_wp2;go_region
   all_goals
    go_wp2;refine bR (.tuple #[.agg #[.string ⟨#[]⟩,.bool false,.int .i64 0,.slice none 0 0,.slice none 0 0,.slice none 0 0,.slice none 0 0],.int .i64 (p.bad),.int .i64 (p.place)]) ?_;rw[HV.o];refine⟨_,rfl,⟨_,_,_,_,rfl,FE _ _⟩,?_⟩
    first
     |exact(((((((r.o.setCell (lR _) _).setCell (lR _) _).setCell (lR _) _).setCell (lR _) _).setCell (lR _) _).setCell (lR _) _).setCell (lR _) _).drew
     |exact(((((((r.o.drew.setCell (lR _) _).setCell (lR _) _).setCell (lR _) _).setCell (lR _) _).setCell (lR _) _).setCell (lR _) _).setCell (lR _) _)
  have d1:(p.bad==0)=true:=bQ.2 hb;have HRI:=aA (sE out _ _ _ _ _ I.o);unfold aP at HRI;by_cases f:fA out=0
  case pos=>
   have HV:Hid (uW out (wS S out p)=(out,0,0)):=aA (by unfold wS;rw[iN (fun h=>h.2 f)];exact iN (fun h=>h hb));rw[f] at HRI;rw[hb] at c3;have HBD:=aA hb;clear hb f d1;go_wp2_with fail;refine HRI.o.mono ?_;rintro e Y ⟨rfl,hb_⟩;obtain⟨HP7,HO7,B7,BO7,HB7⟩:=gD (C.o.on hb_) (I.o.aDH (aJ hb_)) (aE t.o hb_) (aE x.o hb_) (aC r.o hb_);exact QAG
  have HV:Hid (uW out (wS S out p)=(mE,5,(S.size:Int))):=aA (by unfold wS;rw[iP ⟨hb,f⟩];unfold eQ;rw[iP hb];rfl);have HWR:Hid ((eQ 5 S.size p).bad=5/\(eQ 5 S.size p).place=(S.size:Int)):=aA (by unfold eQ;rw[iP hb];exact⟨rfl,rfl⟩);have HWA:=aA (fun g w h=>uA (L:=L) (p:=p) 5 S.size g w h);unfold eT at HWA;have d5:(fA out != 0)=true:=bne_iff_ne.2 f;rw[hb] at c3;clear hb f d1;generalize fA out=ro at *;generalize eQ 5 S.size p=pw at *;go_wp2_with fail;refine HRI.o.mono ?_;rintro e Y ⟨rfl,hb_⟩;obtain⟨HP7,B7,HB7⟩:=aY (C.o.on hb_) (aE t.o hb_) (aC r.o hb_);exact QAy
 .have K:Bb L p=dL L p:=iP hk;have dk:((aU L p).aDy != 7)=true:=bne_iff_ne.2 hk;rw[K];clear K hk;generalize dL L p=a at *;go_enter func27,ntmps27;go_wp2_with fail;refine(n.o _ (T.o.on (aB _ _))).mono ?_;rintro e w1 ⟨v,rfl,i,hb_⟩;obtain⟨m,y,E⟩:=aY (aE (aK w (.cells wJ 56) _ rfl) hb_) (aC (aB w (.cells wJ 56)) hb_) i;obtain⟨la,lc,rfl,ab⟩:=i.slice;clear i hb_ n;have af:=aD m.o;have J:Hid (PW L (w1.alloc (.cells #[.slice la L.length lc,.int .i64 0,.int .i64 0,.int .i64 0,.int .i64 0] 142)) w1.heap.size ⟨0,0,0,0⟩):=aA ⟨la,lc,aK _ _ _ rfl,((E.o.inb iB).on iB (aB _ _)).more iB (fun b hb=>hb.2)⟩;have z:=qB y (aB w1 (.cells #[.slice la L.length lc,.int .i64 0,.int .i64 0,.int .i64 0,.int .i64 0] 142));go_wp2_with fail;refine(D.o _ _ J.o).mono ?_;rintro e j ⟨vt,vr,vk,vo,rfl,c,M,k_⟩;obtain⟨ta,tc,rfl,_⟩:=c.2.2.1.slice;obtain⟨ra,rc,rfl,_⟩:=c.2.2.2.1.slice;obtain⟨ka,kc,rfl,_⟩:=c.2.2.2.2.1.slice;obtain⟨oa,oc,rfl,_⟩:=c.2.2.2.2.2.slice;have s:=aA (aF (aE m.o (aB w1 (.cells #[.slice la L.length lc,.int .i64 0,.int .i64 0,.int .i64 0,.int .i64 0] 142))) k_ qo);have F:=aA (z.o.trans (k_.below (fun k hk=>⟨lL hk z.o.size,qo⟩)));have A:=aA M;have H:=aA (c.more (ok':=fun b=>w.heap.size<b/\b≠w1.heap.size) (fun b hb=>by have h9:(w1.alloc _).heap.size<=b:=hb;rw[World.size_alloc] at h9;exact⟨by show w.heap.size<b;omega,by show b≠w1.heap.size;omega⟩));have ag:=aD s.o;have ad:=A.o.lt;clear c M k_ D J z m y E;have B:=aA (A.o.on (aB j (.cells (kL out ta tc ra rc ka kc oa oc) 56)));go_wp2_with fail
  refine(G.o _ _ B.o).mono ?_;rintro e w5 ⟨rfl,hb_⟩;obtain⟨C,I,t,x,r⟩:=gD (B.o.on hb_) ((H.o.aDH (aJ (aB j (.cells (kL out ta tc ra rc ka kc oa oc) 56)))).aDH (aJ hb_)) (aE (aE s.o (aB j (.cells (kL out ta tc ra rc ka kc oa oc) 56))) hb_) (aE (aK j (.cells (kL out ta tc ra rc ka kc oa oc) 56) _ rfl) hb_) (aC (aC F.o (aB j (.cells (kL out ta tc ra rc ka kc oa oc) 56))) hb_);clear hb_ G B A H s F;go_wp2_with fail;refine(V.o _ _ C.o).mono ?_;rintro e w6 ⟨rfl,h_,k_⟩;have ak:=aD t.o;have aj:=aD x.o;have N:=aA (r.o.trans (k_.below (fun k hk=>⟨lL hk r.o.size,qo⟩)));have Q:=qS t k_ qo;have R:=qS x k_ qo;have aa:=aA (I.o.aDH (k_.mono fun b _ hb=>hb.2));have O:=aA h_;clear h_ k_ V C I t x r;obtain⟨A_,c_,c0,c1,c2,c3,c4,_⟩:=O.o.cells;obtain⟨⟨y0,y1,y2,y3,y4,y5,y6⟩,_⟩:=bI R.o;have ae:=O.o.lt;have hyl:=aD R.o;by_cases hb:a.bad=0
  case neg=>
   have HV:Hid (uW out (wS S out a)=(mE,a.bad,a.place)):=aA (by unfold wS;rw[iN (fun h=>hb h.1)];exact iP hb);have d1:(a.bad==0)=false:=bN.2 hb;have d2:(a.bad != 0)=true:=bne_iff_ne.2 hb;clear hb;obtain⟨⟨x0,x1,x2,x3,x4,x5,x6⟩,f0,f1,f2,f3,f4,f5,f6⟩:=bI Q.o;go_wp2;go_region
   all_goals
    go_wp2;refine bR (.tuple #[.agg #[.string ⟨#[]⟩,.bool false,.int .i64 0,.slice none 0 0,.slice none 0 0,.slice none 0 0,.slice none 0 0],.int .i64 (a.bad),.int .i64 (a.place)]) ?_;rw[HV.o];refine⟨_,rfl,⟨_,_,_,_,rfl,FE _ _⟩,?_⟩
    first
     |exact(((((((N.o.setCell (lR _) _).setCell (lR _) _).setCell (lR _) _).setCell (lR _) _).setCell (lR _) _).setCell (lR _) _).setCell (lR _) _).drew
     |exact(((((((N.o.drew.setCell (lR _) _).setCell (lR _) _).setCell (lR _) _).setCell (lR _) _).setCell (lR _) _).setCell (lR _) _).setCell (lR _) _)
  have d1:(a.bad==0)=true:=bQ.2 hb;have HRI:=aA (sE out _ _ _ _ _ aa.o);unfold aP at HRI;by_cases f:fA out=0
  case pos=>
   have HV:Hid (uW out (wS S out a)=(out,0,0)):=aA (by unfold wS;rw[iN (fun h=>h.2 f)];exact iN (fun h=>h hb));rw[f] at HRI;rw[hb] at c3;have HBD:=aA hb;clear hb f d1;go_wp2_with fail;refine HRI.o.mono ?_;rintro e Y ⟨rfl,hb_⟩;obtain⟨HP7,HO7,B7,BO7,HB7⟩:=gD (O.o.on hb_) (aa.o.aDH (aJ hb_)) (aE Q.o hb_) (aE R.o hb_) (aC N.o hb_);exact QAG
  have HV:Hid (uW out (wS S out a)=(mE,5,(S.size:Int))):=aA (by unfold wS;rw[iP ⟨hb,f⟩];unfold eQ;rw[iP hb];rfl);have HWR:Hid ((eQ 5 S.size a).bad=5/\(eQ 5 S.size a).place=(S.size:Int)):=aA (by unfold eQ;rw[iP hb];exact⟨rfl,rfl⟩);have HWA:=aA (fun g w h=>uA (L:=L) (p:=a) 5 S.size g w h);unfold eT at HWA;have d5:(fA out != 0)=true:=bne_iff_ne.2 f;rw[hb] at c3;clear hb f d1;generalize fA out=ro at *;generalize eQ 5 S.size a=pw at *;go_wp2_with fail;refine HRI.o.mono ?_;rintro e Y ⟨rfl,hb_⟩;obtain⟨HP7,B7,HB7⟩:=aY (O.o.on hb_) (aE Q.o hb_) (aC N.o hb_);exact QAy
end Go.Proofs.YtdfinmcogbkffaaGreatDoor
