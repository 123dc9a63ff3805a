/- Lemmas. -/
import Derived.Test.YthcgdgkpgdjahaaGreatDoorMat
namespace Go.Proofs.YthcgdgkpgdjahaaGreatDoor
open Go.RowKit
set_option linter.unusedVariables false
set_option linter.unusedSimpArgs false
set_option maxHeartbeats 16000000
open _root_.Go.Proofs.Tryz
set_option maxRecDepth 20000
theorem VN(o:Op)(ho:iU o)(w:World):Calls prog 24 #[eZ o] w (aP (.bool (gW o)) w):=by
 obtain⟨k,su,x,y,z,⟨v1,v2,v3⟩,E,s,D,C⟩:=o;obtain⟨g1,g2,g3,g4,g5,⟨g6,g7,g8⟩,g9,g10,g11⟩:=ho;dsimp only at g2 g3 g4 g5 g8 g10;have U:=aA (fun w=>oZ su (tI g2) w);have K:=aA (fun w=>Ei ⟨k,su,x,y,z,(v1,v2,v3),E,s,D,C⟩ w);have R:=aA (fun w=>DW x g3 w);have S:=aA (fun w=>DW y g4 w);have T:=aA (fun w=>DW z g5 w);have L:=aA (fun w=>nU v1 v2 v3 (tI g8) w);have F:=aA (fun w=>Kn ⟨k,su,x,y,z,(v1,v2,v3),E,s,D,C⟩ w);obtain⟨V,h1⟩:∃n,eT su=n:=⟨_,rfl⟩;obtain⟨W,h2⟩:∃n,oM ⟨k,su,x,y,z,(v1,v2,v3),E,s,D,C⟩=n:=⟨_,rfl⟩;obtain⟨X,h3⟩:∃n,mZ x=n:=⟨_,rfl⟩;obtain⟨Y,h4⟩:∃n,mZ y=n:=⟨_,rfl⟩;obtain⟨Z,h5⟩:∃n,mZ z=n:=⟨_,rfl⟩;obtain⟨n6,h6⟩:∃n,fX ⟨k,su,x,y,z,(v1,v2,v3),E,s,D,C⟩=n:=⟨_,rfl⟩;obtain⟨n7,h7⟩:∃n,aT (v1,v2,v3)=n:=⟨_,rfl⟩;obtain⟨M,h8⟩:∃n,decide (((v1,v2,v3):V3)=aY)=n:=⟨_,rfl⟩;have v:Hid (gW ⟨k,su,x,y,z,(v1,v2,v3),E,s,D,C⟩=if V=false\/W=false\/4096<s.size then false else if X=false\/Y=false\/Z=false\/(M=false/\n7=false) then false else n6):=aA (by
  rw[<-h1,<-h2,<-h3,<-h4,<-h5,<-h6,<-h7,<-h8];unfold gW;dsimp only;simp only[decide_eq_false_iff_not,ne_eq])
 have ah:∀w,Sem.run prog (binOp .neq 30 (.agg #[.int .i64 v1,.int .i64 v2,.string v3]) (.agg #[.int .i64 0,.int .i64 0,.string ⟨#[]⟩])) w=.ok (.bool (!M)) w:=fun w=>(yY (v1,v2,v3) aY w).trans (by rw[h8])
 rw[h1] at U;rw[h2] at K;rw[h3] at R;rw[h4] at S;rw[h5] at T;rw[h6] at F;rw[h7] at L;unfold lN at L;unfold eZ bX at *;dsimp only at K F ⊢;unfold aP at *;obtain⟨W0,G⟩:=xE (w.alloc (.cells #[.int .i64 k,.string su,.string x,.string y,.string z,.int .i64 v1,.int .i64 v2,.string v3,.int .i64 E,.string s,.string D,.bool C] 32));have N:Hid (Below w.heap.size w W0):=aA (by rw[G];exact aB _ _);have A:Hid (W0.heap[w.heap.size]? =some (.cells #[.int .i64 k,.string su,.string x,.string y,.string z,.int .i64 v1,.int .i64 v2,.string v3,.int .i64 E,.string s,.string D,.bool C] 32 (0,0))):=aA (by rw[G];exact aK _ _ _ rfl);have ad:=aA G;obtain⟨⟨a0,a1,a2,a3,a4,a5,a6,a7,a8,a9,ae,af⟩,_⟩:=bK A.o;have za:=aD A.o;clear G h1 h2 h3 h4 h5 h6 h7 h8 g1 g2 g3 g4 g5 g6 g7 g8 g9 g11;go_enter func24,ntmps24;go_wp2_with fail;rw[<-ad.o];refine(U.o _).mono ?_;rintro e w0 ⟨rfl,rfl⟩
 cases V
 .go_wp2;go_returns;exact⟨bH (by rw[v.o];rfl),N.o⟩
 go_wp2_with fail;refine(K.o _).mono ?_;rintro e w1 ⟨rfl,a⟩;have I:=qB N a;clear a0 a1 a2 a3 a4 a5 a6 a7 a8 a9 ae af za;replace A:=qK A a;obtain⟨⟨b,c,g,i,j,l,m,p,q,r,d,f⟩,_⟩:=bK A.o;have t:=aD A.o;clear a
 cases W
 .go_wp2;go_returns;exact⟨bH (by rw[v.o];rfl),I.o⟩
 by_cases H:4096<s.size
 .have ag:decide ((s.size:Int) > 4096)=true:=dX qo;have B:=aA H;clear H;go_wp2;go_returns;exact⟨bH (by rw[v.o];rw[iP (.inr (.inr B.o))]),I.o⟩
 have ag:decide ((s.size:Int) > 4096)=false:=dF qo;have B:=aA (show ¬(true=false\/true=false\/4096<s.size) by simpa using H);clear H;go_wp2_with fail;refine(R.o _).mono ?_;rintro e ai ⟨rfl,a⟩;have O:=qB I a
 try clear b c g i j l m p q r d f t
 replace A:=qK A a;obtain⟨⟨b,c,g,i,j,l,m,p,q,r,d,f⟩,_⟩:=bK A.o;have t:=aD A.o;clear a
 cases X
 .go_wp2;go_returns;exact⟨bH (by rw[v.o];rw[iN B.o];rfl),O.o⟩
 go_wp2_with fail;refine(S.o _).mono ?_;rintro e aj ⟨rfl,a⟩;have P:=qB O a
 try clear b c g i j l m p q r d f t
 replace A:=qK A a;obtain⟨⟨b,c,g,i,j,l,m,p,q,r,d,f⟩,_⟩:=bK A.o;have t:=aD A.o;clear a
 cases Y
 .go_wp2;go_returns;exact⟨bH (by rw[v.o];rw[iN B.o];rfl),P.o⟩
 go_wp2_with fail;refine(T.o _).mono ?_;rintro e al ⟨rfl,a⟩;have J:=qB P a
 try clear b c g i j l m p q r d f t
 replace A:=qK A a;obtain⟨⟨b,c,g,i,j,l,m,p,q,r,d,f⟩,_⟩:=bK A.o;have t:=aD A.o;clear a
 cases Z
 .go_wp2;go_returns;exact⟨bH (by rw[v.o];rw[iN B.o];rfl),J.o⟩
 cases M
 .go_wp2_with fail;refine(L.o _).mono ?_;rintro e an ⟨rfl,a⟩;have Q:=qB J a
  try clear b c g i j l m p q r d f t
  replace A:=qK A a;obtain⟨⟨b,c,g,i,j,l,m,p,q,r,d,f⟩,_⟩:=bK A.o;have t:=aD A.o;clear a
  cases n7
  .go_wp2;go_returns;exact⟨bH (by rw[v.o,iN B.o];rfl),Q.o⟩
  go_wp2_with fail;refine(F.o _).mono ?_;rintro e ao ⟨rfl,a⟩;have ab:=qB Q a
  try clear b c g i j l m p q r d f t
  replace A:=qK A a;obtain⟨⟨b,c,g,i,j,l,m,p,q,r,d,f⟩,_⟩:=bK A.o;have t:=aD A.o;clear a;go_wp2;go_returns;exact⟨bH (by rw[v.o,iN B.o];rfl),ab.o⟩
 .go_wp2_with fail;refine(F.o _).mono ?_;rintro e ak ⟨rfl,a⟩;have aa:=qB J a
  try clear b c g i j l m p q r d f t
  replace A:=qK A a;obtain⟨⟨b,c,g,i,j,l,m,p,q,r,d,f⟩,_⟩:=bK A.o;have t:=aD A.o;clear a;go_wp2;go_returns;exact⟨bH (by rw[v.o,iN B.o];rfl),aa.o⟩
theorem QCS{p:Prop}(h:p:=by
 repeat (refine aM.off eD ?_ (fun h=>h) (fun h=>qA ((GN.o.lt _ h).1)))
 exact GN.o):p:=h
theorem QCR{p:Prop}(h:p:=by
 repeat (refine aM.off cV ?_ (fun h=>h) (fun h=>qA ((GR.o.lt _ h).1)))
 exact GR.o):p:=h
theorem QCM{p:Prop}(h:p:=by
 go_wp2;go_roundw
 case rel=>exact⟨k+1,_,qo,by go_num,HMN,HGN,HSN⟩
 case measure=>simp[intOf];omega):p:=h
theorem QCk{p:Prop}(h:p:=by
 rw[List.map_set,<-h.all];have:(L.map Prod.fst)[k]'(by rw[List.length_map];exact hk)=L[k].1:=by rw[List.getElem_map]
 rw[<-this,List.set_getElem_self]):p:=h
theorem QBH{p:Prop}(h:p:=by
 have hlg1:decide ((c.log.length:Int) ≥ 256)=true:=dX qo;have HLG:=aA hlg;clear hlg;go_wp2;go_returns;exact⟨by rw[HE.o,iN N1.o,iP ⟨by first|exact qe|trivial,HLG.o⟩];rfl,HB2.o⟩):p:=h
theorem IC{o:Op}(h:gW o=true)(a:o.aDN=5):0<o.aEa:=by
 unfold gW at h;by_cases h1:eT o.aD3=false\/oM o=false\/4096<o.text.size
 .rw[iP h1] at h;cases h
 rw[iN h1] at h;by_cases h2:mZ o.aDU=false\/mZ o.aD7=false\/mZ o.to_=false\/(o.val≠aY/\aT o.val=false)
 .rw[iP h2] at h;cases h
 rw[iN h2] at h;unfold fX at h;rw[a] at h;rw[iN qe,iN qe,iN qe,iN qe,iP rfl,Bool.and_eq_true,decide_eq_true_eq] at h;exact h.1
theorem OD{s:Sto}{o:Op}(h:dU s o.aDU=none):gC s o=10:=by unfold gC;rw[h]
theorem OE{s:Sto}{o:Op}{c:cB}(h:dU s o.aDU=some c):gC s o=if o.aDN=3/\16<=c.aDT.length/\eB c o.aD7=aY then 6 else if o.aDN≠2/\256<=c.log.length then 6 else if (o.aDN=3/\c.aD9=oL)\/(o.aDN=4/\iB c.aD9 o.to_=false) then 13 else 0:=by unfold gC;rw[h]
structure Rc (c:cB):Prop where
 aDT:c.aDT.length<=1000000
 log:c.log.length<=1000000
 id:c.id.size<=cQ
 aEg:c.aEg.size<=cQ
 aD9:c.aD9.size<=cQ
theorem EA{w:World}{ok:nP}{s:Sto}{vc vr vn vo vt vu vk vb:Value}{N:bY}{c:cB}(h:fM w ok s vc vr vn vo vt vu vk vb)(a:dU s N=some c):Rc c:=by
 rcases FN s N with ⟨e,_⟩|⟨k,g,_,e⟩
 .rw[e] at a;cases a
 .rw[e] at a;injection a with a;subst a;have f:=h.aDO;obtain⟨i,j,rfl,_⟩:=f.slice;obtain⟨b,off,r,_,_,_,⟨l,m,_,d⟩,_⟩:=aH.at dW f g qe;obtain⟨_,_,_,h1⟩:=d.2.2.2.1.slice;obtain⟨_,_,_,h2⟩:=d.2.2.2.2.slice;exact⟨h1,h2,d.1,d.2.1,d.2.2.1⟩
theorem JV{c:cB}{w w':World}{e f:Value}(h:UY c w e f w')(d:Rc c):pD w' (fun b=>w.heap.size<=b) c e f:=
 ⟨d.id,d.aEg,d.aD9,(eO (ok':=fun b=>w.heap.size<=b) h.1).sl d.aDT _ (fun b a _=>a) (fun b a _=>a) bS,(eO (ok':=fun b=>w.heap.size<=b) h.2.1).sl d.log _ (fun b a _=>a) (fun b a _=>a) cE⟩
theorem SI{ok:nP}(s:Sto)(vc vr vn vo vt vu vk vb:Value)(o:Op)(ho:iU o)(w:World)(h:fM w ok s vc vr vn vo vt vu vk vb):Calls prog 71 #[.agg (aX s vc vr vn vo vt vu vk vb),eZ o] w (aP (.int .i64 (gC s o)) w):=by
 obtain⟨ca,cc,ra,rc,na,nc,oa,oc,ta,tc,ua,uc,ka,kc,ba,bc,rfl,_,rfl,_,rfl,_,rfl,_,rfl,_,rfl,_,rfl,_,rfl,_⟩:=h.sl;obtain⟨k,su,f,i,j,⟨v1,v2,v3⟩,rv,tx,rs,Y⟩:=o;unfold eZ bX;dsimp only;obtain⟨W0,Z⟩:=xE ((w.alloc (.cells (fU s ca cc ra rc na nc oa oc ta tc ua uc ka kc ba bc) 62)).alloc (.cells #[.int .i64 k,.string su,.string f,.string i,.string j,.int .i64 v1,.int .i64 v2,.string v3,.int .i64 rv,.string tx,.string rs,.bool Y] 32));have ag:Hid (Below w.heap.size w W0):=aA (by rw[Z];exact aC (aB _ _) (aB _ _));have A:Hid (W0.heap[w.heap.size]? =some (.cells (fU s ca cc ra rc na nc oa oc ta tc ua uc ka kc ba bc) 62 (0,0))):=aA (by rw[Z];exact aE (aK _ _ _ rfl) (aB _ _));have B:Hid (W0.heap[w.heap.size+1]? =some (.cells #[.int .i64 k,.string su,.string f,.string i,.string j,.int .i64 v1,.int .i64 v2,.string v3,.int .i64 rv,.string tx,.string rs,.bool Y] 32 (0,0))):=aA (by rw[Z];exact aK _ _ _ qs);have az:=aA Z;have ao:=aA (DR s _ _ _ _ _ _ _ _ f W0 (h.on ag.o));have aq:=aA (fun (h:dU s f=none)=>(OD (o:=⟨k,su,f,i,j,(v1,v2,v3),rv,tx,rs,Y⟩) h));have ar:=aA (fun c (h:dU s f=some c)=>(OE (o:=⟨k,su,f,i,j,(v1,v2,v3),rv,tx,rs,Y⟩) h));dsimp only at aq ar;have ay:=aA (fun c (h':dU s f=some c)=>EA h h');generalize gC s ⟨k,su,f,i,j,(v1,v2,v3),rv,tx,rs,Y⟩=J at *;generalize dU s f=C0 at *;unfold aP;unfold aX AM at *;obtain⟨⟨a0,a1,a2,a3,a4,a5,a6,a7,a8,a9,bd,be,a12⟩,_⟩:=bW A.o;have za:=aD A.o;obtain⟨⟨b0,b1,b2,b3,b4,b5,b6,b7,b8,b9,bf,bg⟩,_⟩:=bK B.o;have zb:=aD B.o;clear h Z;go_enter func71,ntmps71;go_wp2_with fail
 rw[<-az.o];refine ao.o.mono ?_;rintro e w1 bj;clear a0 a1 a2 a3 a4 a5 a6 a7 a8 a9 bd be a12 za b0 b1 b2 b3 b4 b5 b6 b7 b8 b9 bf bg zb ao
 rcases bj with ⟨X,rfl,a⟩|⟨c,vf,vl,X,rfl,ak,al,a⟩
 .have HE:=aA (aq.o X);have ah:=qB ag a;replace A:=qK A a;obtain⟨⟨q,r,y,D,E,F,G,H,I,K,t,v,x⟩,_⟩:=bW A.o;have zA:=aD A.o;replace B:=qK B a;obtain⟨⟨L,M,P,Q,R,S,T,U,V,W,N,O⟩,_⟩:=bK B.o;have zB:=aD B.o;clear a X;go_wp2;go_returns;exact⟨by rw[HE.o];rfl,aC ah.o (aB _ _)⟩
 .obtain⟨fa,fc,rfl⟩:=ak.slice;obtain⟨la,lc,rfl⟩:=al.slice;have HE:=aA (ar.o c X);have ah:=qB ag a;obtain⟨W2,af⟩:=xE (w1.alloc (.cells (pH c fa fc la lc) 113));have ad:Below w1.heap.size w1 W2:=by rw[af];exact aB _ _
  have C:Hid (W2.heap[w1.heap.size]? =some (.cells (pH c fa fc la lc) 113 (0,0))):=aA (by rw[af];exact aK _ _ _ rfl);have bb:=aA af;have HB2:=qB ah ad;have ab:=ay.o c X;have aw:=aA ((JV ⟨ak,al,a⟩ ab).aDW (aJ ad));have bl:=ab.aDT;have bm:=ab.log;have aj:=aA (fun w=>VF c.aD9 j w);obtain⟨fo,au⟩:∃fo,iB c.aD9 j=fo:=⟨_,rfl⟩;rw[au] at aj HE;unfold aP at aj;have ai:=aA (LA c _ _ i W2 aw.o);obtain⟨fv,av⟩:∃fv,eB c i=fv:=⟨_,rfl⟩;rw[av] at ai HE;obtain⟨z,hz⟩:∃z,decide (fv=aY)=z:=⟨_,rfl⟩;have HZ:=aA hz;obtain⟨l,m,n⟩:=fv;have heq:∀w,Sem.run prog (binOp .eql 30 (.agg #[.int .i64 l,.int .i64 m,.string n]) (.agg #[.int .i64 0,.int .i64 0,.string ⟨#[]⟩])) w=.ok (.bool z) w:=fun w=>(FR (l,m,n) aY w).trans (by rw[hz])
  unfold aP dC at ai;clear au av hz ak al ab;clear af;go_upto_region 2 with (fail)
  rw[<-bb.o];replace A:=qK A a;obtain⟨⟨q,r,y,D,E,F,G,H,I,K,t,v,x⟩,_⟩:=bW A.o;have zA:=aD A.o;replace B:=qK B a;obtain⟨⟨L,M,P,Q,R,S,T,U,V,W,N,O⟩,_⟩:=bK B.o;have zB:=aD B.o
  try clear q r y D E F G H I K t v x zA
  replace A:=qK A ad;obtain⟨⟨q,r,y,D,E,F,G,H,I,K,t,v,x⟩,_⟩:=bW A.o;have zA:=aD A.o
  try clear L M P Q R S T U V W N O zB
  replace B:=qK B ad;obtain⟨⟨L,M,P,Q,R,S,T,U,V,W,N,O⟩,_⟩:=bK B.o;have zB:=aD B.o;obtain⟨⟨bk,C1,C2,C3,C4⟩,_⟩:=dM C.o;have zC:=aD C.o;by_cases p:k=3
  .subst p;by_cases ae:16<=c.aDT.length
   .have bh:decide ((c.aDT.length:Int) ≥ 16)=true:=dX qo;have ax:=aA ae;clear ae;go_wp2_with fail;refine ai.o.mono ?_;rintro e w3 ⟨rfl,a⟩;have aa:=qB HB2 a
    try clear q r y D E F G H I K t v x zA
    replace A:=qK A a;obtain⟨⟨q,r,y,D,E,F,G,H,I,K,t,v,x⟩,_⟩:=bW A.o;have zA:=aD A.o
    try clear L M P Q R S T U V W N O zB
    replace B:=qK B a;obtain⟨⟨L,M,P,Q,R,S,T,U,V,W,N,O⟩,_⟩:=bK B.o;have zB:=aD B.o
    try clear C0 C1 C2 C3 C4 zC
    replace C:=qK C a;obtain⟨⟨C0,C1,C2,C3,C4⟩,_⟩:=dM C.o;have zC:=aD C.o;clear a
    cases z
    .have N1:Hid (¬((3:Int)=3/\16<=c.aDT.length/\((l,m,n):V3)=aY)):=aA (fun h=>by have:=of_decide_eq_false HZ.o;exact this h.2.2);by_cases hlg:256<=c.log.length
     .have hlg1:decide ((c.log.length:Int) ≥ 256)=true:=dX qo;have HLG:=aA hlg;clear hlg;go_wp2;go_returns;exact⟨by rw[HE.o,iN N1.o,iP ⟨by first|exact qe|trivial,HLG.o⟩];rfl,aa.o⟩
     .have hlg1:decide ((c.log.length:Int) ≥ 256)=false:=dF qo;have d:Hid (¬((3:Int)≠2/\256<=c.log.length)):=aA (fun h=>hlg h.2);clear hlg;by_cases b:c.aD9=oL
      .obtain⟨s1,s2⟩:=fY c.aD9 [99,108,111,115,101,100] (by rw[b];exact wI);have g:=aA b;clear b;go_wp2;go_returns;exact⟨by rw[HE.o,iN N1.o,iN d.o,iP (.inl ⟨by trivial,g.o⟩)];rfl,aa.o⟩
      .obtain⟨s1,s2⟩:=fP c.aD9 [99,108,111,115,101,100] (fun e=>b (e.trans wI.symm));have g:=aA b;clear b;go_wp2;go_returns;exact⟨by rw[HE.o,iN N1.o,iN d.o,iN (fun h=>h.elim (fun h=>g.o h.2) (fun h=>absurd h.1 qe))];rfl,aa.o⟩
    .go_wp2;go_returns;exact⟨by rw[HE.o,iP ⟨by trivial,ax.o,of_decide_eq_true HZ.o⟩];rfl,aa.o⟩
   .have bh:decide ((c.aDT.length:Int) ≥ 16)=false:=dF qo;have N1:Hid (¬((3:Int)=3/\16<=c.aDT.length/\((l,m,n):V3)=aY)):=aA (fun h=>ae h.2.1);clear ae;by_cases hlg:256<=c.log.length
    .exact QBH
    .have hlg1:decide ((c.log.length:Int) ≥ 256)=false:=dF qo;have d:Hid (¬((3:Int)≠2/\256<=c.log.length)):=aA (fun h=>hlg h.2);clear hlg;by_cases b:c.aD9=oL
     .obtain⟨s1,s2⟩:=fY c.aD9 [99,108,111,115,101,100] (by rw[b];exact wI);have g:=aA b;clear b;go_wp2;go_returns;exact⟨by rw[HE.o,iN N1.o,iN d.o,iP (.inl ⟨by trivial,g.o⟩)];rfl,HB2.o⟩
     .obtain⟨s1,s2⟩:=fP c.aD9 [99,108,111,115,101,100] (fun e=>b (e.trans wI.symm));have g:=aA b;clear b;go_wp2;go_returns;exact⟨by rw[HE.o,iN N1.o,iN d.o,iN (fun h=>h.elim (fun h=>g.o h.2) (fun h=>absurd h.1 qe))];rfl,HB2.o⟩
  by_cases k4:k=4
  .subst k4;clear p;have N1:Hid (¬((4:Int)=3/\16<=c.aDT.length/\((l,m,n):V3)=aY)):=aA (fun h=>absurd h.1 qe);by_cases hlg:256<=c.log.length
   .exact QBH
   .have hlg1:decide ((c.log.length:Int) ≥ 256)=false:=dF qo;have d:Hid (¬((4:Int)≠2/\256<=c.log.length)):=aA (fun h=>hlg h.2);clear hlg;go_wp2_with fail;refine(aj.o _).mono ?_;rintro e w5 ⟨rfl,a⟩;have an:=qB HB2 a;clear a
    cases fo
    .go_wp2;go_returns;exact⟨by rw[HE.o,iN N1.o,iN d.o,iP (.inr ⟨by trivial,by trivial⟩)];rfl,an.o⟩
    .go_wp2;go_returns;exact⟨by rw[HE.o,iN N1.o,iN d.o,iN (fun h=>h.elim (fun h=>absurd h.1 qe) (fun h=>absurd h.2 qe))];rfl,an.o⟩
  by_cases k2:k=2
  .subst k2;clear p k4;have N1:Hid (¬((2:Int)=3/\16<=c.aDT.length/\((l,m,n):V3)=aY)):=aA (fun h=>absurd h.1 qe);have d:Hid (¬((2:Int)≠2/\256<=c.log.length)):=aA (fun h=>h.1 rfl);go_wp2;go_returns;exact⟨by rw[HE.o,iN N1.o,iN d.o,iN (fun h=>h.elim (fun h=>absurd h.1 qe) (fun h=>absurd h.1 qe))];rfl,HB2.o⟩
  have d3:(k==3)=false:=bN.2 p;have d2:(k==2)=false:=bN.2 k2;have d4:(k==4)=false:=bN.2 k4;have HK:=aA (⟨p,k2,k4⟩:¬k=3/\¬k=2/\¬k=4);clear p k4;have N1:Hid (¬((k:Int)=3/\16<=c.aDT.length/\((l,m,n):V3)=aY)):=aA (fun h=>HK.o.1 h.1);by_cases hlg:256<=c.log.length
  .have hlg1:decide ((c.log.length:Int) ≥ 256)=true:=dX qo;have HLG:=aA hlg;clear hlg;go_wp2;go_returns;exact⟨by rw[HE.o,iN N1.o,iP ⟨by first|exact HK.o.2.1|trivial,HLG.o⟩];rfl,HB2.o⟩
  .have hlg1:decide ((c.log.length:Int) ≥ 256)=false:=dF qo;have d:Hid (¬((k:Int)≠2/\256<=c.log.length)):=aA (fun h=>hlg h.2);clear hlg;go_wp2;go_returns;exact⟨by rw[HE.o,iN N1.o,iN d.o,iN (fun h=>h.elim (fun h=>HK.o.1 h.1) (fun h=>HK.o.2.2 h.1))];rfl,HB2.o⟩
abbrev xQ:Array Value:=#[.int .i64 0,.slice none 0 0,.slice none 0 0,.slice none 0 0,.slice none 0 0,.string ⟨#[]⟩,.bool false,.int .i64 0,.slice none 0 0,.slice none 0 0,.slice none 0 0,.slice none 0 0,.int .i64 0]
structure xR (L:List Mix) (l:List cB) (k:Nat):Prop where
 all:L.map Prod.fst=l
 done:∀j (hj:j<L.length),j<k->L[j].2.2.isSome=true
 bare:∀j (hj:j<L.length),L[j].2.1=none
 apart:pV L
theorem xR.len{L:List Mix}{l:List cB}{k:Nat}(h:xR L l k):L.length=l.length:=by rw[<-h.all,List.length_map]
theorem VO(l:List cB):xR (l.map (fun c=>((c,none,none):Mix))) l 0:=⟨by rw[List.map_map];exact List.map_id' l,fun j hj h=>by omega,fun j hj=>by rw[List.getElem_map],GX l⟩
theorem xR.step{L:List Mix}{l:List cB}{k n:Nat}(h:xR L l k)(hk:k<L.length){v:Value}(c:∀j (hj:j<L.length),(∀a b,L[j].2.1=some a->a.ownBlock=some b->b<n)/\(∀a b,L[j].2.2=some a->a.ownBlock=some b->b<n))(e:∀b,v.ownBlock=some b->n<=b):xR (L.set k (L[k].1,none,some v)) l (k+1):=by
 refine⟨?_,?_,?_,?_⟩
 .exact QCk
 .intro j hj f;rw[List.getElem_set];split
  .rfl
  .rename_i g;rw[List.length_set] at hj;exact h.done j hj qo
 .intro j hj;rw[List.getElem_set];split
  .rfl
  .rw[List.length_set] at hj;exact h.bare j hj
 .exact QC h.apart hk c (.inl (h.bare k hk).symm) (.inr (fun a q ha d=>by injection ha with ha;subst ha;exact e q d))
def VP(ok:nP)(s:Sto)(vo vt vu vk vb:Value)(w:World)(e:Ending)(w':World):Prop:=∃(vc vr vn:Value) (L:List Mix) (m:Nat),e=.returned (.agg (aX s vc vr vn vo vt vu vk vb))/\xR L s.aDO s.aDO.length/\w.heap.size<=m/\m<=w'.heap.size/\
 aM (eC m (fun b=>ok b/\b<w.heap.size)) 5 113 w' w.heap.size (fun b=>(ok b/\b<w.heap.size)\/m<=b) vc L/\aM tG 7 166 w' w.heap.size (fun _=>False) vr s.aDQ/\aM wK 3 169 w' w.heap.size (fun _=>False) vn s.aDV/\
 (∀b,vc.ownBlock=some b->b<m)/\(∀b,vr.ownBlock=some b->b<m)/\(∀b,vn.ownBlock=some b->b<m)/\Below w.heap.size w w'
theorem VQ{ok:nP}(s:Sto)(vc vr vn vo vt vu vk vb:Value)(w:World)(h:fM w ok s vc vr vn vo vt vu vk vb):Calls prog 37 #[.agg (aX s vc vr vn vo vt vu vk vb)] w (VP ok s vo vt vu vk vb w):=by
 obtain⟨ca,cc,ra,rc,na,nc,oa,oc,ta,tc,ua,uc,ka,kc,ba,bc,rfl,_,rfl,_,rfl,_,rfl,_,rfl,_,rfl,_,rfl,_,rfl,_⟩:=h.sl;obtain⟨D,a8⟩:∃O:Obj,O=.cells (fU s ca cc ra rc na nc oa oc ta tc ua uc ka kc ba bc) 62:=⟨_,rfl⟩;obtain⟨E,bz⟩:∃O:Obj,O=.cells xQ 62:=⟨_,rfl⟩;obtain⟨W0,ao⟩:=xE ((w.alloc D).alloc E);have av:=aA (ao▸LB w D E:Kq w w.heap.size (w.heap.size+1) D E W0);have Z:Hid (∀w',Kq w w.heap.size (w.heap.size+1) D E w'->(w'.cell? ⟨w.heap.size,0,none⟩=some (.int .i64 s.aDX)/\w'.cell? ⟨w.heap.size,1,none⟩=some (.slice ca s.aDO.length cc)/\w'.cell? ⟨w.heap.size,2,none⟩=some (.slice ra s.aDQ.length rc)/\w'.cell? ⟨w.heap.size,3,none⟩=some (.slice na s.aDV.length nc)/\w'.cell? ⟨w.heap.size,4,none⟩=some (.slice oa s.aD1.length oc)/\w'.cell? ⟨w.heap.size,5,none⟩=some (.string s.aDP.id)/\w'.cell? ⟨w.heap.size,6,none⟩=some (.bool s.aDP.set)/\w'.cell? ⟨w.heap.size,7,none⟩=some (.int .i64 s.aDP.alg)/\w'.cell? ⟨w.heap.size,8,none⟩=some (.slice ta s.aDP.aDY.length tc)/\w'.cell? ⟨w.heap.size,9,none⟩=some (.slice ua s.aDP.aDR.length uc)/\w'.cell? ⟨w.heap.size,10,none⟩=some (.slice ka s.aDP.aD2.length kc)/\w'.cell? ⟨w.heap.size,11,none⟩=some (.slice ba s.aDP.aD4.length bc)/\w'.cell? ⟨w.heap.size,12,none⟩=some (.int .i64 s.aD0))/\w'.frozen? ⟨w.heap.size,1,none⟩=false/\w'.frozen? ⟨w.heap.size,2,none⟩=false/\w'.frozen? ⟨w.heap.size,3,none⟩=false/\w.heap.size<w'.heap.size):=aA (fun w' q=>by
  have h:=q.2.1;rw[a8] at h;exact⟨(bW h).1,aR h 1,aR h 2,aR h 3,aD h⟩)
 have aj:Hid (∀w',Kq w w.heap.size (w.heap.size+1) D E w'->w.heap.size+1+1<=w'.heap.size):=aA (fun w' q=>qA (aD q.2.2));have hs:=h.inb;have HR:=aA (fun w' (q:Kq w w.heap.size (w.heap.size+1) D E w')=>DL _ s.aDQ w' (aH.on cV hs.aDQ q.1));have HN:=aA (fun w' (q:Kq w w.heap.size (w.heap.size+1) D E w')=>DM _ s.aDV w' (aH.on eD hs.aDV q.1));have HC:=aA (fun w' (q:Kq w w.heap.size (w.heap.size+1) D E w')=>DK _ s.aDO w' (aH.on dW hs.aDO q.1));have bt:=aA ao;have cj:s.aDO.length<=1000000:=by obtain⟨_,_,_,h4⟩:=h.aDO.slice;exact h4
 unfold bV at HR HN HC;unfold aX;clear h hs ao;subst a8 bz;go_enter func37,ntmps37;go_upto_region 1 with (fail)
 rw[<-bt.o];go_cut [2] from 5 to 16 (fun v w'=>∃(o H F:oD) (l I G:Nat),v=.pointer (some ⟨w.heap.size+1,0,none⟩)/\Hid (w'.heap[w.heap.size]? =some (.cells (fU s o l H I F G oa oc ta tc ua uc ka kc ba bc) 62 (0,0)))/\Hid (w'.heap[w.heap.size+1]? =some (.cells xQ 62 (0,0)))/\Hid (aM tG 7 166 w' (w.heap.size+1+1) (fun _=>False) (.slice H s.aDQ.length I) s.aDQ)/\Hid (aM wK 3 169 w' (w.heap.size+1+1) (fun _=>False) (.slice F s.aDV.length G) s.aDV)/\Hid (aM qN 5 113 w' (w.heap.size+1+1) (fun b=>ok b/\b<w.heap.size) (.slice o s.aDO.length l) s.aDO)/\Hid (Below w.heap.size w w'))
 case first=>
  obtain⟨⟨c0,c1,c2,c3,c4,c5,Q,R,S,c9,N,P,c12⟩,d1,d2,d3,dz⟩:=Z.o _ av.o;have a:=aA (Kq.on av.o (Below.refl _ _).drew);go_region_law
   ((first
     |(go_simp;go_at_call 85;refine(HR.o _ a.o).mono ?_;rintro e w_ ⟨v_,rfl,n,m⟩;obtain⟨H,I,rfl⟩:=n.slice;have GR:=aA (aM.less (eO (enc:=KT) (good:=FG) (ok':=fun _=>False) n) (aj.o _ a.o));replace a:=aA (Kq.on a.o m);obtain⟨⟨c0,c1,c2,c3,c4,c5,Q,R,S,c9,N,P,c12⟩,d1,d2,d3,dz⟩:=Z.o _ a.o;clear m n)
     |(go_simp;go_at_call 86;refine(HN.o _ a.o).mono ?_;rintro e w_ ⟨v_,rfl,n,m⟩;obtain⟨F,G,rfl⟩:=n.slice;have GN:=aA (aM.less (eO (enc:=KU) (good:=FH) (ok':=fun _=>False) n) (aj.o _ a.o));replace GR:=aA (GR.o.on cV m);replace a:=aA (Kq.on a.o m);obtain⟨⟨c0,c1,c2,c3,c4,c5,Q,R,S,c9,N,P,c12⟩,d1,d2,d3,dz⟩:=Z.o _ a.o;clear m n)
     |(go_simp;go_at_call 87;refine(HC.o _ a.o).mono ?_;rintro e w_ ⟨v_,rfl,n,m⟩;obtain⟨o,l,rfl⟩:=n.slice;have C:=aA (aM.less n (aj.o _ a.o));replace GR:=aA (GR.o.on cV m);replace GN:=aA (GN.o.on eD m);replace a:=aA (Kq.on a.o m);obtain⟨⟨c0,c1,c2,c3,c4,c5,Q,R,S,c9,N,P,c12⟩,d1,d2,d3,dz⟩:=Z.o _ a.o;clear m n)))
  all_goals
   go_wp2;go_meet;have hA:¬(ok w.heap.size/\w.heap.size<w.heap.size):=fun h=>by omega
   refine⟨o,H,F,l,I,G,rfl,aA ?_,aA ?_,aA ?_,aA ?_,aA ?_,aA ?_⟩
   .first
     |exact aG (aG (aG a.o.2.1 2 _) 3 _) 1 _
     |exact aG (aG (aG a.o.2.1 2 _) 1 _) 3 _
     |exact aG (aG (aG a.o.2.1 3 _) 2 _) 1 _
     |exact aG (aG (aG a.o.2.1 3 _) 1 _) 2 _
     |exact aG (aG (aG a.o.2.1 1 _) 2 _) 3 _
     |exact aG (aG (aG a.o.2.1 1 _) 3 _) 2 _
   .exact bE (bE (bE a.o.2.2 qo) qo) qo
   .exact QCR
   .exact QCS
   .repeat (refine aM.off dW ?_ hA (fun h=>qA ((C.o.lt _ h).1)))
    exact C.o
   .repeat (refine Below.setCell ?_ (by first|exact lR _|exact Nat.le_succ _) _)
    exact a.o.1
 case rest=>
  obtain⟨o,H,F,l,I,G,hv,Y,R1,GR,GN,C,ag⟩:=hcut;subst hv;obtain⟨f,bf⟩:=xE wc;rw[<-bf] at Y R1 GR GN C ag ⊢;clear bf;have cn:w.heap.size+1<f.heap.size:=aD R1.o;obtain⟨t,a7⟩:∃t:Option Nat,t=(Value.slice o s.aDO.length l).ownBlock:=⟨_,rfl⟩;have J:=aA a7;have K:Hid (∀b,t=some b->w.heap.size+1+1<=b/\b<f.heap.size):=aA (fun b d=>C.o.lt b (J.o▸d));have aq:=aA (show ∀wr,aN (fun b=>some b≠t) f wr->wr.heap[w.heap.size]? =_ from fun wr h=>aF Y.o h (fun e=>qA ((K.o _ e.symm).1)));have bm:=aA (QB (b2:=f.heap.size) C.o (fun b d=>⟨qA d.2,fun e=>qD ((K.o b (J.o.trans e.symm)).1) d.2⟩));obtain⟨⟨c0,c1,c2,c3,c4,c5,Q,R,S,c9,N,P,c12⟩,_⟩:=bW Y.o;have cz:=aD Y.o;clear a7;go_wp2;clear c0 c1 c2 c3 c4 c5 Q R S c9 N P c12 cz;go_loopw [3,4,20] (fun _ _ i wr=>∃(k:Nat) (L:List Mix),k<=s.aDO.length/\i=.int .i64 k/\Hid (xR L s.aDO k)/\Hid (aM (eC f.heap.size (fun b=>ok b/\b<w.heap.size)) 5 113 wr (w.heap.size+1+1) (fun b=>(ok b/\b<w.heap.size)\/f.heap.size<=b) (.slice o s.aDO.length l) L)/\Hid (aN (fun b=>some b≠t) f wr)) (fun _ _ i _=>s.aDO.length - (intOf i).toNat)
  case atStart=>exact⟨0,_,Nat.zero_le _,rfl,aA (VO s.aDO),aA (bm.o.aEC (dP _ _) (fun b d=> .inl d)),aA (aN.refl _ _)⟩
  case round=>
   obtain⟨k,L,q,rfl,U,M,A⟩:=hrel;have bl:=aA U.o.len;by_cases b5:k<s.aDO.length
   .have b4:(k:Int)<(s.aDO.length:Int):=qo;have aa:k<L.length:=by rw[bl.o];exact b5
    have cg:Hid (aM (eC f.heap.size (fun b=>ok b/\b<w.heap.size)) 5 113 wr (w.heap.size+1+1) (fun b=>(ok b/\b<w.heap.size)\/f.heap.size<=b) (.slice o s.aDO.length l) L):=M;obtain⟨g,r0,e0,ch,V,b6,bd,b3⟩:=M.o.at (dP _ _) aa qe;subst e0;obtain⟨vf,vl,rfl,ab⟩:=b6;obtain⟨fa,fc,rfl,_⟩:=ab.2.2.2.1.slice bS;obtain⟨la,lc,rfl,be⟩:=ab.2.2.2.2.slice cE;obtain⟨y0,y1,y2,y3,y4⟩:=KP bd;rw[Nat.add_zero] at y0;have bg:Hid (t=some g):=aA J.o;have ax:=aA ab;have aw:=aA (LC M.o);have az:=aA (fun (v:Value) (hv:∀b,v.ownBlock=some b->wr.heap.size<=b)=>U.o.step aa aw.o hv);have ay:=aA (fun (W:World) (d:Below wr.heap.size wr W) (v:Value) (hr:∀r,eC f.heap.size (fun b=>ok b/\b<w.heap.size) W (fun b=>((ok b/\b<w.heap.size)\/f.heap.size<=b)/\b<W.heap.size/\b≠g) r L[k]->eC f.heap.size (fun b=>ok b/\b<w.heap.size) W (fun b=>((ok b/\b<w.heap.size)\/f.heap.size<=b)/\b<W.heap.size/\b≠g) (r.set 4 v) (L[k].1,none,some v))=>(M.o.on (dP _ _) d).setAt (dP _ _) aa qe (x:=v) (y:=(L[k].1,none,some v)) hr);have ah:=aA (U.o.bare k aa);clear bd ab M U;generalize L[k]=x at *;obtain⟨c,xf,xl⟩:=x;replace ah:Hid (xf=none):=ah;dsimp only at y0 y1 y2 y3 y4 be;obtain⟨j,ad⟩:=xE (wr.alloc (.cells (pH c fa fc la lc) 113));have al:Below wr.heap.size wr j:=by rw[ad];exact aB _ _
    have X:Hid (j.heap[wr.heap.size]? =some (.cells (pH c fa fc la lc) 113 (0,0))):=aA (by rw[ad];exact aK _ _ _ rfl);have bs:=aA ad;have ck:¬w.heap.size=g:=qo;have cl:¬wr.heap.size=g:=qo;have AV:=aA (aE (aq.o wr A.o) al);have z:=aA al;have ak:Hid (∀w':World,w'.heap[w.heap.size]? =j.heap[w.heap.size]? ->w'.heap[wr.heap.size]? =j.heap[wr.heap.size]? ->w'.cell? ⟨w.heap.size,1,none⟩=some (.slice (some ⟨g,0,none⟩) s.aDO.length l)/\w'.cell? ⟨wr.heap.size,4,none⟩=some (.slice la c.log.length lc)):=aA (fun w' h1 h2=>by
     rw[AV.o] at h1;rw[X.o] at h2;exact⟨aQ h1 1 _ rfl,aQ h2 4 _ rfl⟩)
    have zA:=aD AV.o;have zX:=aD X.o;have a:Hid (Below j.heap.size j j.drew):=aA (Below.refl _ _).drew;have ai:=aA (fun w' (d:Below j.heap.size j w')=>DJ _ c.log w' (aH.on cE (ax.o.2.2.2.2.sl cE) (aC z.o d)));unfold bV at ai;obtain⟨cb,cd⟩:=ak.o j rfl rfl;obtain⟨bw,bx,bk⟩:=aZ zA zX be;clear al ad;go_upto_region 5 with (fail)
    rw[<-bs.o];go_region_law
     ((go_simp;go_at_call 88;refine(ai.o _ a.o).mono ?_;rintro e wo ⟨vo,rfl,T,bb⟩;obtain⟨ae,af,rfl⟩:=T.slice;have bj:=aA (aM.less (eO (enc:=CZ) (good:=vW) (ok':=fun _=>False) T) a.o.size);replace a:=qB a bb;obtain⟨u1,u2⟩:=ak.o _ (a.o.block _ bw.o) (a.o.block _ bx.o);have b1:=xJ b3 z.o V a.o (k * 5+4);have cm:=lL (lL V z.o.size) a.o.size;have q4:=((a.o.cell (p:=⟨g,k * 5+4,none⟩) (lL V z.o.size)).trans (z.o.cell (p:=⟨g,k * 5+4,none⟩) V)).trans y4;clear bb T))
    all_goals
     obtain⟨ar,a1,bh,au⟩:=dH (aC z.o a.o) A.o.size V bj.o;have an:∀b,(Value.slice ae c.log.length af).ownBlock=some b->j.heap.size<=b/\b<wo.heap.size:=fun b d=>au.o.lt b d
     have HGN:=aA (ay.o wo ar.o (.slice ae c.log.length af) (by
      rintro r ⟨cf,ct,rfl,h1,h2,h3,h4,h5⟩;have a6:=h4;rw[ah.o] at a6;refine⟨cf,_,rfl,h1,h2,h3,a6,rfl,aM.less au.o (lT a1.o z.o.size),fun b d=> ?_,bk.o⟩;have h6:=an b d;have h7:=z.o.size;have h8:=a1.o;have h9:=bh.o;exact⟨.inr qo,h6.2,qo⟩))
     have HMN:=aA (az.o (.slice ae c.log.length af) (fun b d=>lT z.o.size (an b d).1));have T:¬(some g≠t):=fun h=>h bg.o.symm
     have HSN:=aA ((A.o.trans (aJ ar.o)).trans (fI (i:=k * 5+4) (v:= .slice ae c.log.length af) T));clear T an u1 u2 q4 b1 y0 y1 y2 y3 y4 cb cd a ai ak X AV ay az ax aw;exact QCM
   .have b4:¬(k:Int)<(s.aDO.length:Int):=qo;obtain rfl:k=s.aDO.length:=qo;have A4:=aA (aq.o wr A.o);have R4:=qS R1 A.o (fun e=>qA ((K.o _ e.symm).1));have bp:Hid (∀b,(Value.slice H s.aDQ.length I).ownBlock=some b->some b≠t):=aA (fun b d e=>by
     rcases vX GR.o C.o qe with h|h
     .rw[d] at h;cases h
     .exact h (by rw[<-J.o,d];exact e))
    have bo:Hid (∀b,(Value.slice F s.aDV.length G).ownBlock=some b->some b≠t):=aA (fun b d e=>by
     rcases vX GN.o C.o qe with h|h
     .rw[d] at h;cases h
     .exact h (by rw[<-J.o,d];exact e))
    have bq:=aA (GR.o.stays cV A.o bp.o (fun b d _=>d.elim));have bn:=aA (GN.o.stays eD A.o bo.o (fun b d _=>d.elim));have HBF:=aA (ag.o.trans (A.o.below (B:=w.heap.size) (fun b d=>⟨qo,fun e=>qA ((K.o _ e.symm).1)⟩)));have br:=aA A.o.size;have bu:=aA ag.o.size;obtain⟨⟨c0,c1,c2,c3,c4,c5,Q,R,S,c9,N,P,c12⟩,_⟩:=bW A4.o;have cz:=aD A4.o;obtain⟨⟨r0,r1,r2,r3,r4,r5,r6,r7,r8,r9,cp,cq,cr⟩,f0,f1,f2,f3,f4,f5,f6,f7,f8,f9,f10,f11,f12⟩:=bW R4.o;have rz:=aD R4.o;go_wp2;refine bR (.agg #[.int .i64 s.aDX,.slice o s.aDO.length l,.slice H s.aDQ.length I,.slice F s.aDV.length G,.slice oa s.aD1.length oc,.string s.aDP.id,.bool s.aDP.set,.int .i64 s.aDP.alg,.slice ta s.aDP.aDY.length tc,.slice ua s.aDP.aDR.length uc,.slice ka s.aDP.aD2.length kc,.slice ba s.aDP.aD4.length bc,.int .i64 s.aD0]) ?_;have b8:¬((ok (w.heap.size+1)/\w.heap.size+1<w.heap.size)\/f.heap.size<=w.heap.size+1):=fun h=>by
     rcases h with h|h
     .have:=h.2;omega
     .omega
    have b0:(Value.slice o s.aDO.length l).ownBlock≠some (w.heap.size+1):=fun h=>qA ((K.o _ (J.o.trans h)).1)
    have b9:(Value.slice H s.aDQ.length I).ownBlock≠some (w.heap.size+1):=fun h=>qA ((GR.o.lt _ h).1)
    have b7:(Value.slice F s.aDV.length G).ownBlock≠some (w.heap.size+1):=fun h=>qA ((GN.o.lt _ h).1)
    refine⟨_,_,_,L,f.heap.size,rfl,U.o,bu.o,?_,aM.less ?_ (show w.heap.size<=w.heap.size+1+1 by omega),aM.less ?_ (show w.heap.size<=w.heap.size+1+1 by omega),aM.less ?_ (show w.heap.size<=w.heap.size+1+1 by omega),fun b d=>(K.o _ (J.o.trans d)).2,fun b d=>(GR.o.lt b d).2,fun b d=>(GN.o.lt b d).2,?_⟩
    .simp only[jT];exact br.o
    .repeat (refine aM.off (dP _ _) ?_ b8 b0)
     exact M.o
    .repeat (refine aM.off cV ?_ (fun h=>h) b9)
     exact bq.o
    .repeat (refine aM.off eD ?_ (fun h=>h) b7)
     exact bn.o
    .exact QCY
section
variable {w:World} {base b2:Nat} {N:nP} {ok:nP} {e:TypeId} {g n c k:Nat}
theorem pL{β:Type}{R:Rep β}{s:Nat}{e:TypeId}(F:Firm R s){i:Nat}{x v:Value}{o:Option Value}{l:List β}(h:fD R s e b2 N w (fun b=>ok b/\b<w.heap.size/\b≠g) o v l):fD R s e b2 N (w.setCell ⟨g,i,none⟩ x) (fun b=>ok b/\b<(w.setCell ⟨g,i,none⟩ x).heap.size/\b≠g) o v l:=
 fD.more F (fD.aDW F h (fI (fun h=>h.2.2 rfl))) (fun b a=>⟨a.1,by rw[jT];exact a.2.1,a.2.2⟩)
theorem Wz{L:List Mix}(h:aM (eC b2 N) 5 e w base ok (.slice (some ⟨g,0,none⟩) n c) L)(m:k<L.length){f l:Value}(p:fD lO 4 185 b2 N w (fun b=>ok b/\b<w.heap.size/\b≠g) (some f) f L[k].1.aDT)(s:fD nB 3 173 b2 N w (fun b=>ok b/\b<w.heap.size/\b≠g) (some l) l L[k].1.log):
 aM (eC b2 N) 5 e (((((w.setCell ⟨g,k * 5,none⟩ (.string L[k].1.id)).setCell ⟨g,k * 5+1,none⟩ (.string L[k].1.aEg)).setCell ⟨g,k * 5+2,none⟩ (.string L[k].1.aD9)).setCell ⟨g,k * 5+3,none⟩ f).setCell ⟨g,k * 5+4,none⟩ l) base ok (.slice (some ⟨g,0,none⟩) n c) (L.set k (L[k].1,some f,some l)):=by
 have g0:=aM.setAt (dP b2 N) (j:=0) (x:= .string L[k].1.id) (y:=L[k]) h m qe (by rintro r ⟨a,b,rfl,d⟩;exact⟨a,b,rfl,d⟩);rw[List.set_getElem_self] at g0;have g1:=aM.setAt (dP b2 N) (j:=1) (x:= .string L[k].1.aEg) (y:=L[k]) g0 m qe (by rintro r ⟨a,b,rfl,d⟩;exact⟨a,b,rfl,d⟩);rw[List.set_getElem_self] at g1;have g2:=aM.setAt (dP b2 N) (j:=2) (x:= .string L[k].1.aD9) (y:=L[k]) g1 m qe (by rintro r ⟨a,b,rfl,d⟩;exact⟨a,b,rfl,d⟩);rw[List.set_getElem_self] at g2;have q:=(pL bS (i:=k * 5+2) (x:= .string L[k].1.aD9) (pL bS (i:=k * 5+1) (x:= .string L[k].1.aEg) (pL bS (i:=k * 5) (x:= .string L[k].1.id) p)));have g3:=aM.setAt (dP b2 N) (j:=3) (x:=f) (y:=(L[k].1,some f,L[k].2.2)) g2 m qe (by rintro r ⟨a,b,rfl,d⟩;exact⟨f,b,rfl,d.1,d.2.1,d.2.2.1,q,d.2.2.2.2⟩);have t:=(pL cE (i:=k * 5+3) (x:=f) (pL cE (i:=k * 5+2) (x:= .string L[k].1.aD9) (pL cE (i:=k * 5+1) (x:= .string L[k].1.aEg) (pL cE (i:=k * 5) (x:= .string L[k].1.id) s))));have o:(L.set k (L[k].1,some f,L[k].2.2))[k]'(by rw[List.length_set];exact m)=(L[k].1,some f,L[k].2.2):=List.getElem_set_self _;have g4:=aM.setAt (dP b2 N) (j:=4) (x:=l) (y:=(L[k].1,some f,some l)) g3 (by rw[List.length_set];exact m) qe (by
  rw[o];rintro r ⟨a,b,rfl,d⟩;exact⟨a,l,rfl,d.1,d.2.1,d.2.2.1,d.2.2.2.1,t⟩)
 rw[List.set_set] at g4;exact g4
end
structure uN (L:List Mix) (l:List cB) (k:Nat):Prop where
 all:L.map Prod.fst=l
 done:∀j (hj:j<L.length),j<k->L[j].2.1.isSome=true/\L[j].2.2.isSome=true
 apart:pV L
theorem uN.len{L:List Mix}{l:List cB}{k:Nat}(h:uN L l k):L.length=l.length:=by rw[<-h.all,List.length_map]
theorem SJ(l:List cB):uN (l.map (fun c=>((c,none,none):Mix))) l 0:=⟨by rw[List.map_map];exact List.map_id' l,fun j hj h=>by omega,GX l⟩
theorem uN.step{L:List Mix}{l:List cB}{k n:Nat}(h:uN L l k)(hk:k<L.length){u v:Value}(d:∀j (hj:j<L.length),(∀a b,L[j].2.1=some a->a.ownBlock=some b->b<n)/\(∀a b,L[j].2.2=some a->a.ownBlock=some b->b<n))(hu:∀b,u.ownBlock=some b->n<=b)(e:∀b,v.ownBlock=some b->n<=b):uN (L.set k (L[k].1,some u,some v)) l (k+1):=by
 refine⟨?_,?_,?_⟩
 .exact QCk
 .intro j hj f;rw[List.getElem_set];split
  .exact⟨rfl,rfl⟩
  .rename_i g;rw[List.length_set] at hj;exact h.done j hj qo
 .exact QC h.apart hk d (.inr (fun a q ha c=>by injection ha with ha;subst ha;exact hu q c)) (.inr (fun a q ha c=>by injection ha with ha;subst ha;exact e q c))
end Go.Proofs.YthcgdgkpgdjahaaGreatDoor
