/- Lemmas. -/
import Derived.Test.YtdfinmcogbkffaaGreatDoorMbp
import Derived.Test.YtdfinmcogbkffaaGreatDoorMbr
namespace Go.Proofs.YtdfinmcogbkffaaGreatDoor
open Go.RowKit
set_option linter.unusedVariables false
set_option linter.unusedSimpArgs false
set_option maxHeartbeats 16000000
open _root_.Go.Proofs.Tryz
set_option maxRecDepth 20000
structure eH (p:PS):Prop where
 b0:0<=p.bad
 b1:p.bad<=100
 q0:0<=p.place
 q1:p.place<=1000000
section
variable {L:List Tok} (T:Toks L)
theorem XH{e q:Int}{p:PS}(h:eH p)(h0:0<=e)(h1:e<=100)(h2:0<=q)(h3:q<=1000000):eH (eQ e q p):=by
 unfold eQ;split
 .exact⟨h0,h1,h2,h3⟩
 .exact h
include T
theorem Xm(p:PS):0<=(aU L p).at_/\(aU L p).at_<=4096:=by
 unfold aU
 rcases h:L[p.at_]? with _|t
 .exact⟨qe,qe⟩
 .exact T.place t (List.mem_of_getElem? h)
theorem AZ{e:Int}(r:PS){p:PS}(h:eH p)(h0:0<=e)(h1:e<=100):eH (eQ e (aU L r).at_ p):=by
 have:=Xm T r;exact XH h h0 h1 this.1 qo
theorem pH{p:PS}(h:eH p):eH (dL L p):=AZ T p h qe qe
theorem tN(b:Bool){p:PS}(h:eH p):eH (cR L b p):=by
 unfold cR;split
 .exact AZ T p h qe qe
 .exact h
omit T in
theorem nC{p:PS}{n:Nat}(h:eH p):eH {p with at_:=n}:=⟨h.b0,h.b1,h.q0,h.q1⟩
omit T in
theorem Xn(s:bY){p:PS}(h:eH p):eH (kO L s p).2:=by
 unfold kO;split
 .exact nC h
 .exact h
theorem pS(s:bY){p:PS}(h:eH p):eH (eJ L s p):=by
 unfold eJ;split
 .exact nC h
 .exact pH T h
theorem zD{p:PS}(h:eH p):eH (bS L p).2:=by
 unfold bS;dsimp only;by_cases a:(aU L p).aDy≠1
 .rw[iP a];split
  .exact pH T h
  .exact nC (pH T h)
 .rw[iN a];split
  .exact h
  .exact nC h
theorem pI(words:List ByteArray){p:PS}(h:eH p):eH (aZ L words p).2:=by
 unfold aZ;dsimp only;split
 .exact nC h
 .exact pH T h
theorem Br{p:PS}(h:eH p):eH (cE L p).2:=by
 unfold cE;dsimp only;exact Xn _ (zD T (pS T _ (pI T _ h)))
theorem QY{p:PS}(h:eH p):eH (eS L p).2:=by
 unfold eS;dsimp only
 repeat (split;(· exact h))
 exact pH T h
theorem XI{p:PS}(h:eH p):eH (dB L p).2:=by
 rw[zJ];split
 .exact QY T h
 .exact nC (QY T h)
theorem aA2{p:PS}(h:eH p):eH (sN L p).2:=by
 unfold sN
 repeat (split;(· exact nC h))
 exact pH T h
theorem XJ{p:PS}(h:eH p):eH (eE L p).2:=by
 unfold eE;dsimp only;exact XI T (aA2 T (Br T h))
theorem zE{α:Type}{one:PS->α×PS}(a:∀{p:PS},eH p->eH (one p).2)(sep:bY):∀(f:Nat) (l:List α) {p:PS},eH p->eH (jW L one sep f l p).2
 |0,l,p,h=>h
 |f+1,l,p,h=>by
  unfold jW;split
  .exact zE a sep f _ (tN T _ (a (nC h)))
  .exact h
theorem Mz{p:PS}(h:eH p):eH (jB L p).2:=by
 unfold jB;dsimp only;exact zE T (XJ T) _ _ _ (XJ T h)
theorem Na{p:PS}(h:eH p):eH (mF L p).2:=by
 unfold mF;dsimp only;exact pS T _ (zE T (Mz T) _ _ _ (Mz T (pS T _ h)))
theorem EE{p:PS}(h:eH p):eH (bT L p).2:=by
 unfold bT;split
 .dsimp only;exact zE T (Na T) _ _ _ (Na T (nC h))
 .exact h
theorem Xo{p:PS}(h:eH p):eH (tP L p).2:=by
 unfold tP;dsimp only;exact zD T (pI T _ (pI T _ h))
theorem BC{p:PS}(h:eH p):eH (gN L p).2:=zE T (Xo T) _ _ _ h
theorem Bs:∀(f:Nat) (l:List No) {p:PS},eH p->eH (eX L f l p).2
 |0,l,p,h=>by unfold eX;exact h
 |f+1,l,p,h=>by
  have c:∀{l:List No} {p:PS} (must:Bool),eH p->eH (dG L f (l,p) must).2:=by
   intro l p must h;unfold dG;dsimp only;split
   .exact h
   .have h1:=Bs f l h;split
    .exact AZ T _ h1 qe qe
    .exact h1
  have b:∀(ms:List Bool) {l:List No} {p:PS},eH p->eH (ms.foldl (dG L f) (l,p)).2:=by
   intro ms
   induction ms with
   |nil=>intro l p h;exact h
   |cons m ms d=>
    intro l p h;have h1:=c (l:=l) m h;exact d h1
  unfold eX;dsimp only;by_cases a:cM L (str "(") p=true
  .rw[iP a];exact tN T _ (pS T _ (b (fN (2+(aZ L eD {p with at_:=p.at_+1}).1)) (l:=l) (pI T _ (nC h))))
  .rw[iN a];split
   .exact tN T _ (Br T h)
   .exact tN T _ (XI T h)
theorem Gg(l:List No)(must:Bool){p:PS}(h:eH p):eH (jE L l must p).2:=by
 unfold jE;dsimp only;have h1:=Bs T L.length l h;split
 .exact AZ T _ h1 qe qe
 .exact h1
theorem Xp(deny:Bool){p:PS}(h:eH p):eH (kP L deny p).2:=by
 unfold kP;dsimp only;refine pS T _ (BC T ?_);have h2:=EE T (zD T h);split
 .exact Gg T _ _ (nC h2)
 .exact h2
theorem OA:∀(f:Nat) (l:List Ru) {p:PS},eH p->eH (iJ L f l p).2
 |0,l,p,h=>by unfold iJ;exact h
 |f+1,l,p,h=>by
  unfold iJ;split
  .dsimp only;have h1:=tN T (decide (l.length=16)||decide (p.aDB=64)) h;split
   .exact h1
   .exact OA f _ (Xp T _ ⟨h1.b0,h1.b1,h1.q0,h1.q1⟩)
  .exact h
theorem OC{one:PS->Po×PS}(a:∀{p:PS},eH p->eH (one p).2)(deep:Bool):∀(f:Nat) (l:List Po) {p:PS},eH p->eH (gO L one deep f l p).2
 |0,l,p,h=>by unfold gO;exact h
 |f+1,l,p,h=>by
  unfold gO;split
  .dsimp only;have h1:=tN T (decide (l.length=16)||deep) h;split
   .exact h1
   .exact OC a deep f _ (a h1)
  .exact h
theorem Nb:∀(n:Nat) {p:PS},eH p->eH (cP L n p).2:=by
 intro n
 induction n with
 |zero=>
  intro p h;unfold cP;dsimp only;refine BC T (pS T _ ?_);have h5:=pS T rB (EE T (pI T dH (zD T (pI T [str "policy",str "set"] h))));split
  .exact OC T (one:=fun q=>(mE,q)) (fun h=>h) true L.length [] h5
  .exact OA T L.length [] h5
 |succ n a=>
  intro p h;unfold cP;dsimp only;refine BC T (pS T _ ?_);have h5:=pS T rB (EE T (pI T dH (zD T (pI T [str "policy",str "set"] h))));split
  .exact OC T a false L.length [] h5
  .exact OA T L.length [] h5
end
def Sm(x:List Tok×Int×Int):Prop:=0<=x.2.1/\x.2.1<=100/\0<=x.2.2/\x.2.2<=1000000
theorem Nc{n:Nat}(h:n<=10000):Sm ([],5,(n:Int)):=⟨by show (0:Int)<=5;decide,by show (5:Int)<=100;decide,by show (0:Int)<=(n:Int);omega,by show (n:Int)<=1000000;omega⟩
theorem aAq(l:List Tok):Sm (l,0,0):=⟨by show (0:Int)<=0;decide,by show (0:Int)<=100;decide,by show (0:Int)<=0;decide,by show (0:Int)<=1000000;decide⟩
theorem JO:∀(f:Nat) (l:lU) (n:Nat) (out:List Tok),n+l.length<=4096->Sm (jL f l n out)
 |0,l,n,out,h=>Nc qo
 |f+1,[],n,out,h=>aAq _
 |f+1,c::r,n,out,h=>by
  have a:=(qJ (c::r) qo).le;rw[List.length_cons] at h a;unfold jL;dsimp only;split
  .exact JO f r (n+1) out qo
  .split
   .exact Nc qo
   .refine JO f _ _ _ ?_;rw[List.length_drop,List.length_cons];omega
theorem aAr(l:lU):Sm (jP l):=by
 unfold jP;split
 .exact⟨by show (0:Int)<=6;decide,by show (6:Int)<=100;decide,by show (0:Int)<=4096;decide,by show (4096:Int)<=1000000;decide⟩
 .exact JO _ _ _ _ qo
theorem aAs{l:List Tok}(T:Toks l)(S:bY)(b:S.size<=1000000)(X:Po×PS)(a:eH X.2):eH (wS S X.1 (Bb l X.2)):=by
 have h2:eH (Bb l X.2):=by
  unfold Bb;split
  .exact pH T a
  .exact a
 unfold wS;split
 .exact XH h2 qe qe qo qo
 .exact h2
theorem aAt(P:Po){p:PS}(h:eH p):(0<=(uW P p).2.1/\(uW P p).2.1<=100)/\0<=(uW P p).2.2/\(uW P p).2.2<=1000000:=by
 unfold uW;split
 .exact⟨⟨h.b0,h.b1⟩,h.q0,h.q1⟩
 .exact⟨⟨Int.le_refl _,by show (0:Int)<=100;decide⟩,Int.le_refl _,by show (0:Int)<=1000000;decide⟩
theorem XK(S:bY)(c:S.size<=1000000):(0<=(fG S).2.1/\(fG S).2.1<=100)/\0<=(fG S).2.2/\(fG S).2.2<=1000000:=by
 have h:=aAr S.data.toList;have b:=TD (l:=S.data.toList);obtain⟨x,a⟩:=xE (jP S.data.toList);rw[<-a] at h b;obtain⟨l,e,q⟩:=x;by_cases he:e=0
 .subst he;have T:=(b rfl).1;rw[QF a.symm];exact aAt _ (aAs T S c _ (Nb T 3 ⟨qe,qe,qe,qe⟩))
 .rw[VX a.symm he];exact⟨⟨h.1,h.2.1⟩,h.2.2.1,h.2.2.2⟩
structure OD (r:Rpl):Prop where
 mark:Cm.QP r.mark
 val:cS r.val
 err:bK r.err
 at_:bK r.at_
theorem xT:cS bD:=⟨by unfold bD bK;simp,by unfold bD bK;simp,Nat.zero_le _⟩
theorem Gh{w:World}{ok:nP}{s:Sto}{vc vr vn vo vt vu vk vb:Value}{N:bY}{c:cG}(h:fM w ok s vc vr vn vo vt vu vk vb)(a:dU s N=some c)(F:bY):cS (gK c F):=by
 rcases EX s N with ⟨e,_⟩|⟨k,n,_,e⟩
 .rw[e] at a;cases a
 .rw[e] at a;injection a with a;subst a;have g:=h.aDz;obtain⟨o,p,rfl,_⟩:=g.slice;obtain⟨b,off,r,_,_,_,⟨v,x,_,m⟩,_⟩:=aH.at dV g n qe;have i:=m.2.2.2.1;obtain⟨q,t,rfl,_⟩:=i.slice;unfold gK
  rcases d:s.aDz[k].aDE.find? (fun f=>decide (f.1=F)) with _|f
  .rw[d];exact xT
  .rw[d];obtain⟨j,hj,he⟩:=List.getElem_of_mem (List.mem_of_find?_eq_some d);obtain⟨_,_,_,_,_,_,⟨_,l⟩,_⟩:=aH.at bP i hj qe;rw[he] at l;exact l.2
theorem ZQ(s:Sto)(o:Op):0<=dN s o/\dN s o<=100:=by
 unfold dN iA iS
 repeat' split
 all_goals exact⟨qe,qe⟩
theorem Nd(g:List Gv)(p:Po):0<=(gI g p).2/\(gI g p).2<=1:=by
 unfold gI qQ
 repeat' split
 all_goals first|exact⟨qe,qe⟩|exact⟨Int.le_refl _,by show (0:Int)<=1;decide⟩
theorem qZ{n:Int}(h0:0<=n)(h1:n<=1000000):bK n:=by unfold bK;omega
theorem XL:bK 0:=qZ (Int.le_refl _) qe
theorem Xq{c:Prop}[Decidable c]{x y:Sto×Rpl×Option Deci×Int}(a:OD x.2.1)(b:OD y.2.1):OD (if c then x else y).2.1:=by
 split
 .exact a
 .exact b
theorem OE{e q:Int}(he:bK e)(a:bK q):OD {pM with err:=e,at_:=q}:=⟨⟨Nat.zero_le _,Nat.zero_le _⟩,xT,he,a⟩
theorem Si{w:World}{ok:nP}{s:Sto}{vc vr vn vo vt vu vk vb:Value}(h:fM w ok s vc vr vn vo vt vu vk vb)(o:Op)(g:o.text.size<=1000000):OD (cK s o).2.1:=by
 have i:=ZQ s o;have hp:=XK o.text g;have j:=Nd (mJ s o) s.aDA;have h1:bK (oO s o).1/\bK (oO s o).2:=by
  unfold oO;split
  .exact⟨qZ hp.1.1 qo,qZ hp.2.1 hp.2.2⟩
  .exact⟨qZ i.1 qo,XL⟩
 by_cases a:(oO s o).1≠0
 .rw[LX a];exact OE h1.1 h1.2
 .have b:(oO s o).1=0:=by simpa using a
  by_cases d:(gI (mJ s o) s.aDA).2≠0
  .rw[LY b d];exact OE (qZ j.1 qo) h1.2
  .rw[LZ b rfl (by simpa using d) rfl rfl rfl rfl rfl];refine Xq (OE (e:=6) (qZ qe qe) h1.2) ?_
   .refine⟨(vM _ _).1,?_,?_,XL⟩
    .unfold oB;dsimp only;split
     .rcases f:dU s o.aDF with _|c
      .exact xT
      .exact Gh h f o.aDS
     .exact xT
    .unfold oB;dsimp only;split
     .exact XL
     .exact qZ qe qe
theorem Uu{p:Prop}(h:p:=by
 injection ho with ho;rw[<-ho];show b.text.size<=_;omega):p:=h
theorem Xr{l:lU}{o:Op}(h:iT l=some o):o.text.size<=l.length:=by
 rw[NZ] at h;have h1:=(sM l).2;have h2:=(Bp (cO l).2).2;have h3:=(sM (kB (cO l).2).2.2).2;generalize (cO (kB (cO l).2).2.2).2=a at *;generalize oK (cO (kB (cO l).2).2.2).1=k at *;generalize e:Us k (cO l).1 (kB (cO l).2).2.1 (kB (cO l).2).1=b at *;have g:b.text.size=0:=by rw[<-e];rfl
 have f:∀o,AW k b a=some o->o.text.size<=l.length:=by
  intro o ho;unfold AW at ho;split at ho
  .exact Uu
  split at ho
  .exact Uu
  split at ho
  .rcases d:oV (cO (cO a).2).2 with _|v
   .rw[d] at ho;cases ho
   .rw[d] at ho;injection ho with ho;rw[<-ho];show b.text.size<=_;omega
  split at ho
  .exact Uu
  split at ho
  .exact Uu
  split at ho
  .injection ho with ho;rw[<-ho];show (bs a).size<=_;rw[cH];omega
  .injection ho with ho;rw[<-ho];omega
 rcases c:AW k b a with _|x
 .rw[c] at h;cases h
 .rw[c] at h;unfold tV at h;dsimp only at h;split at h
  .injection h with h;rw[<-h];exact f x c
  .cases h
theorem sK.more{w:World}{E D:Nat}{M K:nP}{Q m n b:Nat}{s:Sto}(h:sK w E D M K Q m n s)(a:n<=b):sK w E D M K Q m b s:=by
 obtain⟨J,base,vc,vr,vn,vo,vt,vu,vk,vb,la,lc,lu,h,ra,rc,ru,da,dc,bs,sy,H⟩:=h;exact⟨J,base,vc,vr,vn,vo,vt,vu,vk,vb,la,lc,lu,h,ra,rc,ru,da,dc,bs,sy,{H with rows:=⟨lT H.rows.1 a,lT H.rows.2 a⟩}⟩
theorem sK.rep{w:World}{E D:Nat}{M K:nP}{Q m n:Nat}{s:Sto}(h:sK w E D M K Q m n s)(o:Op)(a:o.text.size<=1000000):OD (cK s o).2.1:=by
 obtain⟨J,base,vc,vr,vn,vo,vt,vu,vk,vb,la,lc,lu,h,ra,rc,ru,da,dc,bs,sy,H⟩:=h;exact Si H.sto o a
theorem uP{w w':World}{B:Nat}{o:Obj}(d:B<=w.heap.size)(c:aN (fun b=>b≠w.heap.size) (w.alloc o) w'):Below B w w':=
 ((aJ (ok:=fun b=>b<B) (aB w o)).trans (c.mono fun b _ e=>by show (_:Nat)≠_;omega)).below (B:=B) (fun k a=>⟨qo,a⟩)
def XM(E D:Nat)(M K:nP)(Q m n:Nat)(s:Sto)(q:bY)(w:World)(e:Ending)(w':World):Prop:=
 e=.returned (.string (eN s q.data.toList).2)/\∃(c K':nP) (a:Nat),sK w' E D c K' Q a (n+1) (eN s q.data.toList).1/\(∀b,c b->M b\/w.heap.size<=b)/\(∀b,K' b->K b\/w.heap.size<=b)/\aN (fun b=>¬M b) w w'/\m<=a/\a<=m+400+q.size/\(∀o,iT q.data.toList=some o->(cK s o).2.2.2≠0->a=m)/\(iT q.data.toList=none->a=m)
theorem QZ{s:Sto}{q:lU}(h:iT q=none):eN s q=(s,Up):=by unfold eN;rw[h]
theorem xU{s:Sto}{q:lU}{o:Op}(h:iT q=some o):eN s q=((cK s o).1,rK (cK s o).2.1):=by unfold eN;rw[h]
theorem XN{M K:nP}(E D Q m n k:Nat)(s:Sto)(q:bY)(N:q.size<=100000)(w:World)(Y:sK w E D M K Q m n s)(I:Gl w)(W:∀b,M b->6<=b)(U:lA k s)(hk:k<=900000)(hn:n<=800000)(Z:m+400+q.size<=Q)(X:Q<=900000):
 Calls prog 8 #[.pointer (some ⟨E,0,none⟩),.string q] w (XM E D M K Q m n s q w):=by
 obtain⟨S,G,R,d,HQ⟩:=gD (QT q N w I) Y I (And.intro W (And.intro U (And.intro hk (And.intro hn (And.intro Z X))))) N;obtain⟨F,H⟩:=xE (XM E D M K Q m n s q w);rw[<-H];have P:=aA H;clear Y I W U hk hn Z X N H;go_enter func8,ntmps8;go_wp2_with fail;refine S.o.mono ?_;rintro e w1 ⟨aa,rfl,a⟩;have p:=aA a;have r:=aA aa;clear a aa;obtain⟨OP,z⟩:=xE (iT q.data.toList);rw[<-z] at r;rw[<-z];have f:=aA z;clear z S
 rcases OP with _|o
 .have i:=aA (QZ (s:=s) f.o.symm);have ad:=f;clear r;unfold eW bW;dsimp only[Option.isSome,Option.getD];go_upto_region 2 with (refine fD rfl _ (.tmp 5) (.tmp 10) rfl w1.heap.size _ rfl rfl _ _ (aK _ _ _ rfl) (by kernel_rfl) rfl (by simp[Value.oneCell']) ?_;intro w2 v j)
  have c:=qB p (uP (lR _) j.o);clear v j p;go_wp2;have C:=P.o;subst C;refine⟨by rw[i.o];rfl,M,K,m,?_,fun b a=> .inl a,fun b a=> .inl a,(aJ c.o).mono (fun b a _=>a),lR _,qo,fun o L=>absurd (ad.o.trans L) qs,fun _=>rfl⟩;rw[i.o];exact(G.o.on c.o).more (Nat.le_succ n)
 .have HG:=aA (r.o o rfl);have i:=aA (xU (s:=s) f.o.symm);unfold eW bW;dsimp only[Option.isSome,Option.getD];go_upto_region 2 with (refine fD rfl _ (.tmp 5) (.tmp 10) rfl w1.heap.size _ rfl rfl _ _ (aK _ _ _ rfl) (by kernel_rfl) rfl (by simp[Value.oneCell']) ?_;intro w2 v j)
  have c:=qB p (uP (lR _) j.o);clear j p r;obtain⟨⟨b0,b1,b2,b3,b4,b5,b6,b7,b8,b9,af,ag⟩,-⟩:=bL v.o;have zb:=aD v.o;have ab:o.text.size<=q.size:=by have:=Xr f.o.symm;rwa [Array.length_toList] at this
  have T:=aA ab;have g:=Bo E D Q m n k s o HG.o w2 (G.o.on c.o) ((R.o.on c.o).aEt) d.o.2.1 d.o.2.2.1 d.o.2.2.2.1 (qA d.o.2.2.2.2.1) d.o.2.2.2.2.2;unfold eW bW at g;have g:=aA g;clear ab;go_wp2_with fail;refine g.o.mono ?_;rintro e w3 ⟨rfl,M',K',m',V,y,x,l,A,J,B⟩;obtain⟨HE,ae,t⟩:=aY V (And.intro y (And.intro x (And.intro l (And.intro A (And.intro J B))))) (G.o.rep o (qD T.o HQ.o));have HA:=aA (Gf (cK s o).2.1 t.o.mark t.o.val t.o.err t.o.at_ w3 ((R.o.on c.o).stay l (fun b a h=>qA (d.o.1 b h))));clear V y x l A J B g b0 b1 b2 b3 b4 b5 b6 b7 b8 b9 af ag zb;go_wp2_with fail;refine HA.o.mono ?_;rintro e w4 ⟨rfl,a⟩;have O:=aA a;clear a;go_wp2;have C:=P.o;subst C;obtain⟨y,x,l,A,J,B⟩:=ae.o;have hz:=c.o.size;refine⟨by rw[i.o];rfl,M',K',m',?_,fun b a=>(y b a).imp id (fun h=>by omega),fun b a=>(x b a).imp id (fun h=>by omega),?_,A,qA T.o,fun o' L ah=> ?_,fun ai=>absurd (f.o.trans ai) qs⟩
  .rw[i.o];exact HE.o.on O.o
  .exact((aJ c.o).mono (fun b a _=>a)).trans (l.trans ((aJ O.o).mono (fun b a _=>a)))
  .have h1:=f.o.trans L;injection h1 with h1;subst h1;exact B ah
theorem Gi(w:World):Calls prog 43 #[(Value.slice none 0 0)] w fun e w'=>e=.returned (Value.slice none 0 0)/\w'=w:=by
 have heq:=Lib.run_eql_slice_nil (P:=prog) w 67 5 none 0 0 0 0 underlying67;go_enter func43,ntmps43;go_wp2;go_ret;exact⟨rfl,rfl⟩
theorem Gj(w:World):Calls prog 161 #[(Value.slice none 0 0)] w fun e w'=>e=.returned (.tuple #[(Value.slice none 0 0),.bool false])/\w'=w:=by
 go_enter func161,ntmps161;go_wp2;go_ret2
 exact⟨rfl,rfl⟩
theorem Sj(w:World):Calls prog 111 #[(Value.slice none 0 0)] w fun e w'=>e=.returned (.tuple #[(Value.slice none 0 0),.int .i64 0])/\w'=w:=by
 have a:=aA (Gj w);go_enter func111,ntmps111;go_wp2;go_loopw [4,5] (fun v i wr=>v=(Value.slice none 0 0)/\i=.int .i64 0/\wr=w) (fun _ _ _=>0)
 case atStart=>exact⟨rfl,rfl,rfl⟩
 case round=>
  obtain⟨rfl,rfl,rfl⟩:=hrel;go_wp2_with fail;refine a.o.mono ?_;rintro e w1 ⟨rfl,rfl⟩;go_wp2;go_ret2
  exact⟨rfl,rfl⟩
theorem ZR(Q:Nat)(a:Q<=1000000)(w:World):Calls prog 24 #[.int .i64 Q] w fun e w'=>e=.returned (.tuple #[.pointer (some ⟨w.heap.size,0,none⟩),.int .i64 0])/\w'=w.alloc (oY Q none 0 0 0):=by
 have d1:¬((Q:Int)<0):=qo;have d2:¬((1048576:Int)<(Q:Int)):=qo;go_enter func24,ntmps24;go_wp2;go_ret2
 exact⟨rfl,rfl⟩
theorem Nf(D Q:Nat)(sy:Int)(w:World)(h:w.heap[D]? =some (oY Q none 0 0 sy)):Calls prog 112 #[.pointer (some ⟨D,0,none⟩)] w fun e w'=>e=.returned (Value.slice none 0 0)/\w'=w:=by
 obtain⟨⟨d0,d1,d2,d3,d4⟩,_⟩:=dM h;have b:=aD h;have a:=aA (Gi w);clear h;go_enter func112,ntmps112;go_wp2_with fail;refine a.o.mono ?_;rintro e w1 ⟨rfl,rfl⟩;go_wp2;go_ret;exact⟨rfl,rfl⟩
theorem Sk(D Q m b:Nat)(a:oD)(sy:Int)(w:World)(h:w.heap[D]? =some (oY Q a m b sy)):Calls prog 113 #[.pointer (some ⟨D,0,none⟩)] w fun e w'=>e=.returned (.int .i64 m)/\w'=w:=by
 obtain⟨⟨d0,d1,d2,d3,d4⟩,_⟩:=dM h;have c:=aD h;clear h;go_enter func113,ntmps113;go_wp2;go_ret;exact⟨rfl,rfl⟩
theorem Ng(D Q:Nat)(w:World)(h:w.heap[D]? =some (oY Q none 0 0 0)):Calls prog 58 #[.pointer (some ⟨D,0,none⟩)] w fun e w'=>∃J,w.heap.size<=J/\e=.returned (.tuple #[.pointer (some ⟨J,0,none⟩),.int .i64 0])/\w'.heap[J]? =some (DL D (Value.slice none 0 0))/\w'.heap[D]? =some (oY Q none 0 0 0)/\J<w'.heap.size/\aN (fun b=>b≠D) w w':=by
 obtain⟨c,a,d,g⟩:=dE (Nf D Q 0 w h) (Sk D Q 0 0 none 0 w h) (Sj w) (OZ D Q 0 0 none 0 w h);have j:=aD h;have l:=aA j;clear h j;go_enter func58,ntmps58;go_wp2_with fail;refine c.o.mono ?_;rintro e w1 ⟨rfl,rfl⟩;go_wp2_with fail;refine d.o.mono ?_;rintro e w1 ⟨rfl,rfl⟩;go_wp2_with fail;refine a.o.mono ?_;rintro e w1 ⟨rfl,rfl⟩;go_wp2_with fail;refine g.o.mono ?_;rintro e w2 ⟨rfl,h2,i⟩;have k:=aA h2;have f:=aA i;clear h2 i c a d g;go_wp2;go_ret2
 have m:=f.o.size;have n:=l.o;exact⟨w2.heap.size,m,rfl,aK _ _ _ rfl,aE k.o (aB _ _),qs,f.o.trans (aJ (aB w2 _))⟩
theorem Nh(J D:Nat)(w:World)(h:w.heap[J]? =some (DL D (Value.slice none 0 0))):Calls prog 60 #[.pointer (some ⟨J,0,none⟩)] w fun e w'=>e=.returned (Value.slice none 0 0)/\w'=w:=by
 obtain⟨⟨d0,d1,d2⟩,_⟩:=cD h;have a:=aD h;clear h;go_enter func60,ntmps60;go_wp2;go_loopw [3,11] (fun v i wr=>v=(Value.slice none 0 0)/\i=.int .i64 0/\wr=w) (fun _ _ _=>0)
 case atStart=>exact⟨rfl,rfl,rfl⟩
 case round=>
  obtain⟨rfl,rfl,rfl⟩:=hrel;go_wp2;go_ret;exact⟨rfl,rfl⟩
theorem Ni:xA=⟨#[112,111,108,105,99,121,32,111,112,101,110,32,112,101,114,109,105,116,117,110,108,101,115,115,32,123,32,125]⟩:=by kernel_rfl
def OF(w:World)(e:Ending)(w':World):Prop:=∃vc vr vn vo vt vu vk vb,e=.returned (.agg (aX kW vc vr vn vo vt vu vk vb))/\fM w' (fun b=>w.heap.size<=b) kW vc vr vn vo vt vu vk vb/\Below w.heap.size w w'
theorem Xs(w:World)(p:gX w):Calls prog 59 #[] w (OF w):=by
 obtain⟨W0,f⟩:=xE (w.alloc EB);have g:Below w.heap.size w W0:=by rw[f];exact aB _ _
 have R:Hid (W0.heap[w.heap.size]? =some EB):=aA (by rw[f];exact aK _ _ _ rfl);have c:=sF xA W0 (p.on g);unfold vK at c;obtain⟨P,i⟩:=xE (fG xA);rw[<-i] at c;rw[Ni] at c;have t:Hid (kW=⟨0,[],[],[],[],P.1,0⟩):=aA (by rw[i];rfl);obtain⟨c,r,o⟩:=aY c g f;clear g f i p;unfold OF;rw[t.o];go_enter func59,ntmps59;go_upto_region 1 with (fail)
 rw[<-o.o];go_wp2_with fail;refine c.o.mono ?_;rintro e w1 ⟨v,rfl,⟨vt,vr,vk,vo,rfl,hp⟩,a⟩;obtain⟨G,H,rfl,-⟩:=hp.2.2.1.slice;obtain⟨ra,rc,rfl,-⟩:=hp.2.2.2.1.slice;obtain⟨C,D,rfl,-⟩:=hp.2.2.2.2.1.slice;obtain⟨E,F,rfl,-⟩:=hp.2.2.2.2.2.slice;obtain⟨z,s,j⟩:=aY hp a (aE R.o a);clear hp a;go_upto_region 2 with (refine fD rfl _ (.tmp 1) (.tmp 6) rfl w1.heap.size _ rfl rfl _ _ (aK _ _ _ rfl) (by kernel_rfl) rfl (by simp[Value.oneCell']) ?_;intro w2 l m)
 have d:=aA (uP (lR _) m.o);have I:=aA (aD j.o);have A:=aA (z.o.aDH (aJ d.o));have x:=qK j d.o;obtain⟨⟨T,U,V,W,X,p5,p6⟩,-⟩:=bI l.o;have Z:=aD l.o;clear m;go_wp2_with (refine fD rfl _ (.tmp 0) (.tmp 10) rfl w.heap.size _ rfl rfl _ _ x.o (by kernel_rfl) rfl (by simp[Value.oneCell']) ?_;intro Y y n)
 obtain⟨⟨a0,J,a2,a3,a4,a5,M,N,O,a9,K,L,a12⟩,-⟩:=bV y.o;refine bR (.agg #[.int .i64 0,.slice none 0 0,.slice none 0 0,.slice none 0 0,.slice none 0 0,.string P.1.id,.bool P.1.set,.int .i64 P.1.alg,.slice G P.1.aDJ.length H,.slice ra P.1.aDB.length rc,.slice C P.1.aDN.length D,.slice E P.1.aDP.length F,.int .i64 0]) ?_;have Q:w.heap.size<W0.heap.size:=by rw[o.o];simp
 have S:=d.o.size;exact⟨_,_,_,_,_,_,_,_,rfl,⟨XL,XL,aH.nil,aH.nil,aH.nil,aH.nil,(A.o.aDH (n.o.mono (fun b _ a=>by have:W0.heap.size<=b:=a;show b≠w.heap.size;omega))).more (fun b a=>by have:W0.heap.size<=b:=a;omega),IS,IS,IS⟩,((aJ (ok:=fun b=>b<w.heap.size) (aC r.o (aC s.o d.o))).trans (n.o.mono (fun b _ a=>by have:b<w.heap.size:=a;show b≠w.heap.size;omega))).below (B:=w.heap.size) (fun k q=>⟨q,q⟩)⟩
theorem gX.far{w w':World}{D:Nat}(h:gX w)(a:aN (fun b=>b≠D) w w')(c:6<=D):gX w':=h.stay a (by show 2≠D;omega)
def RF(D Q:Nat)(w:World)(e:Ending)(w':World):Prop:=∃(E J:Nat) (K:nP),e=.returned (.tuple #[.pointer (some ⟨E,0,none⟩),.int .i64 0])/\sK w' E D (fun b=>b=E\/b=J\/b=D) K Q 0 0 kW/\w.heap.size<=E/\w.heap.size<=J/\(∀b,K b->w.heap.size<=b)/\aN (fun b=>b≠D) w w'
theorem Nj(D Q:Nat)(w:World)(h:w.heap[D]? =some (oY Q none 0 0 0))(k:gX w)(p:6<=D):Calls prog 25 #[.pointer (some ⟨D,0,none⟩)] w (RF D Q w):=by
 obtain⟨o,z,A,y⟩:=dE (Ng D Q w h) (aD h) k p;obtain⟨S,s⟩:=xE kW;have g:=aA (fun w1 (k:gX w1)=>Xs w1 k);unfold OF at g;unfold RF;rw[<-s] at g ⊢;clear h k p s;go_enter func25,ntmps25;go_wp2_with fail;refine o.o.mono ?_;rintro e w1 ⟨J,q,rfl,hj,t,r,m⟩;have n:=aA (g.o w1 (A.o.far m y.o));have H1:=aA (And.intro q (And.intro hj (And.intro t (And.intro r m))));clear q hj t r m o g;go_wp2_with fail;refine n.o.mono ?_;rintro e w2 ⟨vc,vr,vn,vo,vt,vu,vk,vb,rfl,x,a⟩;have B:=aA x;have f:=aA a;have c:=Nh J D (w2.alloc (qG J S vc vr vn vo vt vu vk vb (.slice none 0 0) 0)) (aE (aE H1.o.2.1 a) (aB _ _));have v:n64 0=0:=rfl;unfold qG at c;rw[v] at c;have c:=aA c;unfold aX;clear x a n v;go_wp2_with fail;refine c.o.mono ?_;rintro e L ⟨rfl,rfl⟩;clear c;obtain⟨E,d⟩:=xE (w2.alloc (qG J S vc vr vn vo vt vu vk vb (.slice none 0 0) 0));have l:=aA d;unfold qG at d;rw[show n64 0=0 from rfl] at d;rw[<-d];clear d;go_wp2;go_loopw [30] (fun i wr=>i=.int .i64 0/\wr=E) (fun _ _=>0)
 case atStart=>exact⟨rfl,rfl⟩
 case round=>
  obtain⟨rfl,rfl⟩:=hrel;go_wp2;go_ret2
  have j:Below w2.heap.size w2 wr:=by rw[l.o];exact aB _ _
  have K:wr.heap.size=w2.heap.size+1:=by rw[l.o];simp
  have H:=H1.o.2.2.2.2.size;have I:=f.o.size;have G:=z.o;have C:=H1.o.1;have F:=H1.o.2.2.2.1;refine⟨w2.heap.size,J,(fun b=>w1.heap.size<=b/\b<w2.heap.size),rfl,⟨J,wr.heap.size,vc,vr,vn,vo,vt,vu,vk,vb,none,0,[],0,none,0,[],none,0,[],0,?_⟩,qo,C,fun b a=>by omega,(H1.o.2.2.2.2.trans (aJ f.o)).trans (aJ j)⟩;exact {
   eng:=by rw[l.o];exact aK _ _ _ rfl
   jou:=aE (aE H1.o.2.1 f.o) j
   dsk:=aE (aE H1.o.2.2.1 f.o) j
   sto:=B.o.inb.aDH (aJ j)
   log:=aM.nil
   aEu:=aM.nil
   byt:=jC.nil
   len:=rfl
   lts:=⟨qo,qo,qo,lR _⟩
   nes:=⟨qo,qo,qo⟩
   mem:=⟨.inl rfl,.inr (.inl rfl),.inr (.inr rfl)⟩
   aEm:=fun b a=>by simp[Value.ownBlock] at a
   aEl:=fun b a=>by simp[Value.ownBlock] at a
   kept:=fun b a=>⟨fun h=>by rcases h with h|h|h<;>omega,qo⟩
   low:=fun b a=>by rcases a with h|h|h<;>omega
   rows:=⟨lR _,lR _⟩}
def RG(Q:Nat)(w:World)(e:Ending)(w':World):Prop:=∃(E D:Nat) (M K:nP),e=.returned (.tuple #[.pointer (some ⟨E,0,none⟩),.pointer (some ⟨D,0,none⟩)])/\sK w' E D M K Q 0 0 kW/\(∀b,M b->w.heap.size<=b)/\(∀b,K b->w.heap.size<=b)/\Below w.heap.size w w'
theorem Nk(Q:Nat)(t:Q<=1000000)(w:World)(o:Gl w)(h6:6<=w.heap.size):Calls prog 11 #[.int .i64 Q] w (RG Q w):=by
 have i:=aA (ZR Q t w);obtain⟨W0,c⟩:=xE (w.alloc (oY Q none 0 0 0));have j:Below w.heap.size w W0:=by rw[c];exact aB _ _
 have n:=aA (Nj w.heap.size Q W0 (by rw[c];exact aK _ _ _ rfl) (o.on j).aEt h6);have s:Hid (W0.heap.size=w.heap.size+1):=aA (by rw[c];simp);have q:=aA j;rw[<-c] at i;clear j c o h6;unfold RG;go_enter func11,ntmps11;go_wp2_with fail;refine i.o.mono ?_;rintro e w1 ⟨rfl,rfl⟩;go_wp2_with fail;refine n.o.mono ?_;rintro e w2 ⟨E,J,K,rfl,d,l,m,f,g⟩;have r:=aA (And.intro d (And.intro l (And.intro m (And.intro f g))));clear d l m f g n i;go_wp2;go_ret2
 obtain⟨d,l,m,f,g⟩:=r.o;have v:=s.o;exact⟨E,w.heap.size,_,K,rfl,d,fun b a=>by rcases a with h|h|h<;>omega,fun b a=>qA (f b a),((aJ (ok:=fun b=>b<w.heap.size) q.o).trans (g.mono (fun b _ a=>by have:b<w.heap.size:=a;show b≠w.heap.size;omega))).below (B:=w.heap.size) (fun k p=>⟨p,p⟩)⟩
theorem QBO{p:Prop}(h:p:=by
 have HV:=aA ((HG.o.sl (by rw[HM.o,List.length_map,List.length_take];have:=HN.o;omega) (fun b=>w.heap.size<=b) (fun b h _=>h.elim) (fun b h _=>h) vV));go_wp2;go_ret;exact⟨_,rfl,HV.o,HB.o⟩):p:=h
def Sn:Rep ByteArray:=mN (fun s=>[.string s]) (fun s=>s.size<=maxLen)
theorem vV:Firm Sn 1:=gF (fun _=>rfl) (fun x v h=>by simp only[List.mem_cons,List.not_mem_nil,or_false] at h;rw[h];rfl)
theorem aA3:dY prog 22 9 1 16:=fQ (z:= .string ByteArray.empty) underlying22 (by kernel_rfl) rfl qe
def OG(s:bY):ByteArray:=s.extract 0 (min s.size 600)
theorem Nl(s:bY):(OG s).size<=600:=by unfold OG;rw[ByteArray.size_extract];omega
def zF(l:List ByteArray)(n:Nat):List ByteArray:=(l.take n).map OG
def RH(L:List ByteArray)(w:World)(e:Ending)(w':World):Prop:=∃v,e=.returned v/\aH Sn w' (fun b=>w.heap.size<=b) v L/\Below w.heap.size w w'
theorem SD{α β:Type}(f:α->β){l:List α}{k:Nat}(h:k<l.length):(l.take (k+1)).map f=(l.take k).map f++[f l[k]]:=by
 rw[List.take_add_one,gE h,Option.toList_some,List.map_append];rfl
theorem aAu{α:Type}{R:Rep α}{s:Nat}{e:TypeId}{w:World}{base:Nat}{ok:nP}{v:Value}{l:List α}(h:aM R s e w base ok v l){b:Nat}(a:v.ownBlock=some b):base<=b/\b<w.heap.size:=h.lt b a
theorem Nn{ok:nP}(a:oD)(c:Nat)(l:List ByteArray)(J:l.length<=maxLen)(n:Nat)(O:n<=1000)(w:World)(h:∀k (hk:k<l.length),∃b off,a=some ⟨b,off,none⟩/\b<w.heap.size/\w.cell? ⟨b,off+k,none⟩=some (.string l[k])/\l[k].size<=maxLen):Calls prog 7 #[.slice a l.length c,.int .i64 n] w (RH (zF l n) w):=by
 obtain⟨W,HL,HN⟩:=aY h J O;obtain⟨L,y⟩:=xE (zF l n);rw[<-y];have G:=aA y;unfold RH;clear h y O J;go_enter func7,ntmps7;go_wp2;go_loopw [5,6] (fun v i wr=>∃(k:Nat) (m:List ByteArray),k<=n/\k<=l.length/\i=.int .i64 k/\Hid (m=(l.take k).map OG)/\Hid (aM Sn 1 9 wr w.heap.size (fun _=>False) v m)/\Hid (Below w.heap.size w wr)) (fun _ i _=>n - (intOf i).toNat)
 case atStart=>exact⟨0,[],qo,qo,rfl,aA rfl,aA aM.nil,aA (Below.refl _ _)⟩
 case round=>
  obtain⟨k,m,ad,ab,rfl,HM,HG,HB⟩:=hrel;obtain⟨A,X,rfl⟩:=HG.o.slice;by_cases h1:k<l.length
  .have d1:(k:Int)<(l.length:Int):=qo;by_cases h2:k<n
   .have d2:(k:Int)<(n:Int):=qo;obtain⟨b,off,rfl,j,o,D⟩:=W.o k h1;have N:m.length=k:=by rw[HM.o,List.length_map,List.length_take];omega
    have V:=aA N;obtain⟨x,C⟩:=xE (l[k]);rw[<-C] at o D;have Z:min (x.size:Int) 600=((min x.size 600:Nat):Int):=qo;obtain⟨q,B⟩:=xE (min x.size 600);rw[<-B] at Z;have q1:(0:Int)<=(q:Int):=qo;have q2:(q:Int)<=(x.size:Int):=qo;have s:=aA (And.intro C (And.intro B D));have HC:=aA (And.intro j o);have i0:(0:Int)<=(k:Int):=qo;have i1:(k:Int)<(l.length:Int):=d1;clear N C B D;go_upto_region 5 with (fail)
    have F:Hid (Below wr.heap.size wr wr.drew):=aA (Below.refl _ _).drew;have I:b<wr.heap.size:=lL j HB.o.size;have g:wr.drew.cell? ⟨b,off+k,none⟩=some (.string x):=(HB.o.cell (p:=⟨b,off+k,none⟩) j).trans o;have P:(Value.slice A m.length X).ownBlock≠some b:=fun e=>by
     have:=(aAu HG.o e).1;omega
    have r:=aA (And.intro P I);clear j o P I;refine cB 14 [(0,false),(1,false),(2,false),(3,false),(4,false),(5,false),(6,false),(7,false),(8,false),(9,false),(10,false),(11,false),(12,true),(13,true)] [(14,true)] (fun w'=>w'.cell? ⟨b,off+k,none⟩=some (.string x)) (by decide +kernel) (by decide +kernel) g ?_;simp only[List.cons_append,List.nil_append]
    repeat (refine dI rfl (fun K t=> ?_);unfold rd;go_simp;refine t _ (fun ae h1=> ?_) ?_;(· clear t K g;have g:=h1;unfold rd;go_simp);clear t K)
    have E:=aA (((aB wr.drew (.cells #[.string (x.extract 0 q)] 9)).cell (p:=⟨b,off+k,none⟩) r.o.2).trans g);clear g;refine bJ rfl (fun f d=> ?_);unfold mv;go_simp;refine d _ (World.alloc _ (.cells #[.string (x.extract 0 q)] 9)) (fun _=>E.o) ?_;clear d f;refine bJ rfl (fun f d=> ?_);unfold mv;refine iZ (base:=w.heap.size) aA3 vV rfl (.tmp 18) (.tmp 30) rfl _ m rfl (HG.o.on vV (aC F.o (aB _ _))) wr.heap.size 1 _ _ _ (x.extract 0 q) rfl (aK _ _ _ rfl) ⟨rfl,by show (x.extract 0 q).size<=maxLen;rw[ByteArray.size_extract];have:=s.o.2.2;unfold maxLen at *;omega⟩ (qD V.o HN.o) qe (lT HB.o.size (aB _ _).size) ?_;intro Q M A' c' w2 H z aa;have U:Hid (Q=(l.take (k+1)).map OG):=aA (by rw[M.o,HM.o,SD OG h1,<-s.o.1,s.o.2.1];rfl);have T:=aA H;have R:=aA (HG.o.below HB.o (YP (aC F.o (aB _ _)) z) (lR _) HB.o.size);have S:=aA (World.cell?_of_block (a:=⟨b,off+k,none⟩) (z.block b (lL r.o.2 (aB _ _).size) (fun e=>r.o.1 e.symm))▸E.o);clear H z aa M;refine d _ _ (fun _=>S.o) ?_;clear d f;refine bJ rfl (fun f d=> ?_);unfold mv;go_simp;refine d _ _ (fun h=>absurd h qe) ?_;clear d f;unfold cJ;have q9:IntKind.i64.wrap ((k:Int)+1)=((k+1:Nat):Int):=by rw[IntWalk.i64_in _ (qA HN.o)];omega
    go_wp2;go_roundw
    case rel=>exact⟨k+1,Q,qo,qo,by go_num,U,T,R⟩
    case measure=>simp[intOf];omega
   .have d2:¬((k:Int)<(n:Int)):=qo;have Y:L=m:=by
     rw[G.o,HM.o];unfold zF;rw[show k=n by omega]
    exact QBO
  .have d1:¬((k:Int)<(l.length:Int)):=qo;have Y:L=m:=by
    rw[G.o,HM.o];unfold zF;rw[show k=l.length by omega,List.take_of_length_le (lR _),List.take_of_length_le qo]
   exact QBO
end Go.Proofs.YtdfinmcogbkffaaGreatDoor
