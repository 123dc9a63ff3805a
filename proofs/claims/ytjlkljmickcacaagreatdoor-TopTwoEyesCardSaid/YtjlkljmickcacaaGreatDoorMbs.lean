/- Lemmas. -/
import Derived.Test.YtjlkljmickcacaaGreatDoorMbp
import Derived.Test.YtjlkljmickcacaaGreatDoorMbr
namespace Go.Proofs.YtjlkljmickcacaaGreatDoor
open Go.RowKit
set_option linter.unusedVariables false
set_option linter.unusedSimpArgs false
set_option maxHeartbeats 16000000
open _root_.Go.Proofs.Tryz
set_option maxRecDepth 20000
structure eI (p:PS):Prop where
 b0:0<=p.bad
 b1:p.bad<=100
 q0:0<=p.place
 q1:p.place<=1000000
section
variable {L:List Tok} (T:Toks L)
theorem XK{e q:Int}{p:PS}(h:eI p)(h0:0<=e)(h1:e<=100)(h2:0<=q)(h3:q<=1000000):eI (eP e q p):=by
 unfold eP;split
 .exact⟨h0,h1,h2,h3⟩
 .exact h
include T
theorem Xf(p:PS):0<=(aU L p).at_/\(aU L p).at_<=4096:=by
 unfold aU
 rcases h:L[p.at_]? with _|t
 .exact⟨qe,qe⟩
 .exact T.place t (List.mem_of_getElem? h)
theorem BG{e:Int}(r:PS){p:PS}(h:eI p)(h0:0<=e)(h1:e<=100):eI (eP e (aU L r).at_ p):=by
 have:=Xf T r;exact XK h h0 h1 this.1 qo
theorem pN{p:PS}(h:eI p):eI (dN L p):=BG T p h qe qe
theorem tP(b:Bool){p:PS}(h:eI p):eI (cQ L b p):=by
 unfold cQ;split
 .exact BG T p h qe qe
 .exact h
omit T in
theorem nK{p:PS}{n:Nat}(h:eI p):eI {p with at_:=n}:=⟨h.b0,h.b1,h.q0,h.q1⟩
omit T in
theorem Xg(s:bY){p:PS}(h:eI p):eI (kT L s p).2:=by
 unfold kT;split
 .exact nK h
 .exact h
theorem pW(s:bY){p:PS}(h:eI p):eI (eJ L s p):=by
 unfold eJ;split
 .exact nK h
 .exact pN T h
theorem zI{p:PS}(h:eI p):eI (bT L p).2:=by
 unfold bT;dsimp only;by_cases a:(aU L p).aDo≠1
 .rw[iP a];split
  .exact pN T h
  .exact nK (pN T h)
 .rw[iN a];split
  .exact h
  .exact nK h
theorem pO(words:List ByteArray){p:PS}(h:eI p):eI (aZ L words p).2:=by
 unfold aZ;dsimp only;split
 .exact nK h
 .exact pN T h
theorem Bu{p:PS}(h:eI p):eI (cF L p).2:=by
 unfold cF;dsimp only;exact Xg _ (zI T (pW T _ (pO T _ h)))
theorem RI{p:PS}(h:eI p):eI (eR L p).2:=by
 unfold eR;dsimp only
 repeat (split;(· exact h))
 exact pN T h
theorem XL{p:PS}(h:eI p):eI (dB L p).2:=by
 rw[zP];split
 .exact RI T h
 .exact nK (RI T h)
theorem aAT{p:PS}(h:eI p):eI (sR L p).2:=by
 unfold sR
 repeat (split;(· exact nK h))
 exact pN T h
theorem XM{p:PS}(h:eI p):eI (eF L p).2:=by
 unfold eF;dsimp only;exact XL T (aAT T (Bu T h))
theorem zJ{α:Type}{one:PS->α×PS}(a:∀{p:PS},eI p->eI (one p).2)(sep:bY):∀(f:Nat) (l:List α) {p:PS},eI p->eI (kA L one sep f l p).2
 |0,l,p,h=>h
 |f+1,l,p,h=>by
  unfold kA;split
  .exact zJ a sep f _ (tP T _ (a (nK h)))
  .exact h
theorem Mu{p:PS}(h:eI p):eI (jE L p).2:=by
 unfold jE;dsimp only;exact zJ T (XM T) _ _ _ (XM T h)
theorem Mv{p:PS}(h:eI p):eI (mK L p).2:=by
 unfold mK;dsimp only;exact pW T _ (zJ T (Mu T) _ _ _ (Mu T (pW T _ h)))
theorem EE{p:PS}(h:eI p):eI (bU L p).2:=by
 unfold bU;split
 .dsimp only;exact zJ T (Mv T) _ _ _ (Mv T (nK h))
 .exact h
theorem Xh{p:PS}(h:eI p):eI (tR L p).2:=by
 unfold tR;dsimp only;exact zI T (pO T _ (pO T _ h))
theorem BH{p:PS}(h:eI p):eI (gP L p).2:=zJ T (Xh T) _ _ _ h
theorem Bv:∀(f:Nat) (l:List No) {p:PS},eI p->eI (eY L f l p).2
 |0,l,p,h=>by unfold eY;exact h
 |f+1,l,p,h=>by
  have c:∀{l:List No} {p:PS} (must:Bool),eI p->eI (dG L f (l,p) must).2:=by
   intro l p must h;unfold dG;dsimp only;split
   .exact h
   .have h1:=Bv f l h;split
    .exact BG T _ h1 qe qe
    .exact h1
  have b:∀(ms:List Bool) {l:List No} {p:PS},eI p->eI (ms.foldl (dG L f) (l,p)).2:=by
   intro ms
   induction ms with
   |nil=>intro l p h;exact h
   |cons m ms d=>
    intro l p h;have h1:=c (l:=l) m h;exact d h1
  unfold eY;dsimp only;by_cases a:cL L (str "(") p=true
  .rw[iP a];exact tP T _ (pW T _ (b (fM (2+(aZ L eE {p with at_:=p.at_+1}).1)) (l:=l) (pO T _ (nK h))))
  .rw[iN a];split
   .exact tP T _ (Bu T h)
   .exact tP T _ (XL T h)
theorem Gd(l:List No)(must:Bool){p:PS}(h:eI p):eI (jI L l must p).2:=by
 unfold jI;dsimp only;have h1:=Bv T L.length l h;split
 .exact BG T _ h1 qe qe
 .exact h1
theorem Xi(deny:Bool){p:PS}(h:eI p):eI (kU L deny p).2:=by
 unfold kU;dsimp only;refine pW T _ (BH T ?_);have h2:=EE T (zI T h);split
 .exact Gd T _ _ (nK h2)
 .exact h2
theorem OJ:∀(f:Nat) (l:List Ru) {p:PS},eI p->eI (iL L f l p).2
 |0,l,p,h=>by unfold iL;exact h
 |f+1,l,p,h=>by
  unfold iL;split
  .dsimp only;have h1:=tP T (decide (l.length=16)||decide (p.aDq=64)) h;split
   .exact h1
   .exact OJ f _ (Xi T _ ⟨h1.b0,h1.b1,h1.q0,h1.q1⟩)
  .exact h
theorem OK{one:PS->Po×PS}(a:∀{p:PS},eI p->eI (one p).2)(deep:Bool):∀(f:Nat) (l:List Po) {p:PS},eI p->eI (gQ L one deep f l p).2
 |0,l,p,h=>by unfold gQ;exact h
 |f+1,l,p,h=>by
  unfold gQ;split
  .dsimp only;have h1:=tP T (decide (l.length=16)||deep) h;split
   .exact h1
   .exact OK a deep f _ (a h1)
  .exact h
theorem Mw:∀(n:Nat) {p:PS},eI p->eI (cO L n p).2:=by
 intro n
 induction n with
 |zero=>
  intro p h;unfold cO;dsimp only;refine BH T (pW T _ ?_);have h5:=pW T rH (EE T (pO T dI (zI T (pO T [str "policy",str "set"] h))));split
  .exact OK T (one:=fun q=>(mJ,q)) (fun h=>h) true L.length [] h5
  .exact OJ T L.length [] h5
 |succ n a=>
  intro p h;unfold cO;dsimp only;refine BH T (pW T _ ?_);have h5:=pW T rH (EE T (pO T dI (zI T (pO T [str "policy",str "set"] h))));split
  .exact OK T a false L.length [] h5
  .exact OJ T L.length [] h5
end
def Sm(x:List Tok×Int×Int):Prop:=0<=x.2.1/\x.2.1<=100/\0<=x.2.2/\x.2.2<=1000000
theorem Mx{n:Nat}(h:n<=10000):Sm ([],5,(n:Int)):=⟨by show (0:Int)<=5;decide,by show (5:Int)<=100;decide,by show (0:Int)<=(n:Int);omega,by show (n:Int)<=1000000;omega⟩
theorem aAi(l:List Tok):Sm (l,0,0):=⟨by show (0:Int)<=0;decide,by show (0:Int)<=100;decide,by show (0:Int)<=0;decide,by show (0:Int)<=1000000;decide⟩
theorem JT:∀(f:Nat) (l:lU) (n:Nat) (out:List Tok),n+l.length<=4096->Sm (jP f l n out)
 |0,l,n,out,h=>Mx qo
 |f+1,[],n,out,h=>aAi _
 |f+1,c::r,n,out,h=>by
  have a:=(qN (c::r) qo).le;rw[List.length_cons] at h a;unfold jP;dsimp only;split
  .exact JT f r (n+1) out qo
  .split
   .exact Mx qo
   .refine JT f _ _ _ ?_;rw[List.length_drop,List.length_cons];omega
theorem aAj(l:lU):Sm (jT l):=by
 unfold jT;split
 .exact⟨by show (0:Int)<=6;decide,by show (6:Int)<=100;decide,by show (0:Int)<=4096;decide,by show (4096:Int)<=1000000;decide⟩
 .exact JT _ _ _ _ qo
theorem aAk{l:List Tok}(T:Toks l)(S:bY)(b:S.size<=1000000)(X:Po×PS)(a:eI X.2):eI (wW S X.1 (Bd l X.2)):=by
 have h2:eI (Bd l X.2):=by
  unfold Bd;split
  .exact pN T a
  .exact a
 unfold wW;split
 .exact XK h2 qe qe qo qo
 .exact h2
theorem aAl(P:Po){p:PS}(h:eI p):(0<=(uV P p).2.1/\(uV P p).2.1<=100)/\0<=(uV P p).2.2/\(uV P p).2.2<=1000000:=by
 unfold uV;split
 .exact⟨⟨h.b0,h.b1⟩,h.q0,h.q1⟩
 .exact⟨⟨Int.le_refl _,by show (0:Int)<=100;decide⟩,Int.le_refl _,by show (0:Int)<=1000000;decide⟩
theorem XN(S:bY)(c:S.size<=1000000):(0<=(fH S).2.1/\(fH S).2.1<=100)/\0<=(fH S).2.2/\(fH S).2.2<=1000000:=by
 have h:=aAj S.data.toList;have b:=TI (l:=S.data.toList);obtain⟨x,a⟩:=xE (jT S.data.toList);rw[<-a] at h b;obtain⟨l,e,q⟩:=x;by_cases he:e=0
 .subst he;have T:=(b rfl).1;rw[QI a.symm];exact aAl _ (aAk T S c _ (Mw T 3 ⟨qe,qe,qe,qe⟩))
 .rw[WB a.symm he];exact⟨⟨h.1,h.2.1⟩,h.2.2.1,h.2.2.2⟩
structure OL (r:Rpl):Prop where
 mark:Cm.QP r.mark
 val:cT r.val
 err:bK r.err
 at_:bK r.at_
theorem xZ:cT bD:=⟨by unfold bD bK;simp,by unfold bD bK;simp,Nat.zero_le _⟩
theorem Ge{w:World}{ok:nP}{s:Sto}{vc vr vn vo vt vu vk vb:Value}{N:bY}{c:cB}(h:fD w ok s vc vr vn vo vt vu vk vb)(a:dC s N=some c)(F:bY):cT (gM c F):=by
 rcases EY s N with ⟨e,_⟩|⟨k,n,_,e⟩
 .rw[e] at a;cases a
 .rw[e] at a;injection a with a;subst a;have g:=h.aDn;obtain⟨o,p,rfl,_⟩:=g.slice;obtain⟨b,off,r,_,_,_,⟨v,x,_,m⟩,_⟩:=aH.at dO g n qe;have i:=m.2.2.2.1;obtain⟨q,t,rfl,_⟩:=i.slice;unfold gM
  rcases d:s.aDn[k].aDt.find? (fun f=>decide (f.1=F)) with _|f
  .rw[d];exact xZ
  .rw[d];obtain⟨j,hj,he⟩:=List.getElem_of_mem (List.mem_of_find?_eq_some d);obtain⟨_,_,_,_,_,_,⟨_,l⟩,_⟩:=aH.at bP i hj qe;rw[he] at l;exact l.2
theorem ZT(s:Sto)(o:Op):0<=dW s o/\dW s o<=100:=by
 unfold dW iJ iU
 repeat' split
 all_goals exact⟨qe,qe⟩
theorem My(g:List Gv)(p:Po):0<=(gF g p).2/\(gF g p).2<=1:=by
 unfold gF qU
 repeat' split
 all_goals first|exact⟨qe,qe⟩|exact⟨Int.le_refl _,by show (0:Int)<=1;decide⟩
theorem rF{n:Int}(h0:0<=n)(h1:n<=1000000):bK n:=by unfold bK;omega
theorem XO:bK 0:=rF (Int.le_refl _) qe
theorem Xj{c:Prop}[Decidable c]{x y:Sto×Rpl×Option Deci×Int}(a:OL x.2.1)(b:OL y.2.1):OL (if c then x else y).2.1:=by
 split
 .exact a
 .exact b
theorem OM{e q:Int}(he:bK e)(a:bK q):OL {qX with err:=e,at_:=q}:=⟨⟨Nat.zero_le _,Nat.zero_le _⟩,xZ,he,a⟩
theorem Sd{w:World}{ok:nP}{s:Sto}{vc vr vn vo vt vu vk vb:Value}(h:fD w ok s vc vr vn vo vt vu vk vb)(o:Op)(g:o.text.size<=1000000):OL (cR s o).2.1:=by
 have i:=ZT s o;have hp:=XN o.text g;have j:=My (gV s o) s.aDp;have h1:bK (oU s o).1/\bK (oU s o).2:=by
  unfold oU;split
  .exact⟨rF hp.1.1 qo,rF hp.2.1 hp.2.2⟩
  .exact⟨rF i.1 qo,XO⟩
 by_cases a:(oU s o).1≠0
 .rw[MA a];exact OM h1.1 h1.2
 .have b:(oU s o).1=0:=by simpa using a
  by_cases d:(gF (gV s o) s.aDp).2≠0
  .rw[MB b d];exact OM (rF j.1 qo) h1.2
  .rw[MC b rfl (by simpa using d) rfl rfl rfl rfl rfl];refine Xj (OM (e:=6) (rF qe qe) h1.2) ?_
   .refine⟨(vP _ _).1,?_,?_,XO⟩
    .unfold oI;dsimp only;split
     .rcases f:dC s o.aDu with _|c
      .exact xZ
      .exact Ge h f o.aDJ
     .exact xZ
    .unfold oI;dsimp only;split
     .exact XO
     .exact rF qe qe
theorem Ul{p:Prop}(h:p:=by
 injection ho with ho;rw[<-ho];show b.text.size<=_;omega):p:=h
theorem Xk{l:lU}{o:Op}(h:iV l=some o):o.text.size<=l.length:=by
 rw[Br] at h;have h1:=(sQ l).2;have h2:=(Bs (cN l).2).2;have h3:=(sQ (kF (cN l).2).2.2).2;generalize (cN (kF (cN l).2).2.2).2=a at *;generalize oQ (cN (kF (cN l).2).2.2).1=k at *;generalize e:Uj k (cN l).1 (kF (cN l).2).2.1 (kF (cN l).2).1=b at *;have g:b.text.size=0:=by rw[<-e];rfl
 have f:∀o,AZ k b a=some o->o.text.size<=l.length:=by
  intro o ho;unfold AZ at ho;split at ho
  .exact Ul
  split at ho
  .exact Ul
  split at ho
  .rcases d:pA (cN (cN a).2).2 with _|v
   .rw[d] at ho;cases ho
   .rw[d] at ho;injection ho with ho;rw[<-ho];show b.text.size<=_;omega
  split at ho
  .exact Ul
  split at ho
  .exact Ul
  split at ho
  .injection ho with ho;rw[<-ho];show (bs a).size<=_;rw[cI];omega
  .injection ho with ho;rw[<-ho];omega
 rcases c:AZ k b a with _|x
 .rw[c] at h;cases h
 .rw[c] at h;unfold vR at h;dsimp only at h;split at h
  .injection h with h;rw[<-h];exact f x c
  .cases h
theorem sO.more{w:World}{E D:Nat}{M K:nP}{Q m n b:Nat}{s:Sto}(h:sO w E D M K Q m n s)(a:n<=b):sO w E D M K Q m b s:=by
 obtain⟨J,base,vc,vr,vn,vo,vt,vu,vk,vb,la,lc,lu,h,ra,rc,ru,da,dc,bs,sy,H⟩:=h;exact⟨J,base,vc,vr,vn,vo,vt,vu,vk,vb,la,lc,lu,h,ra,rc,ru,da,dc,bs,sy,{H with rows:=⟨lT H.rows.1 a,lT H.rows.2 a⟩}⟩
theorem sO.rep{w:World}{E D:Nat}{M K:nP}{Q m n:Nat}{s:Sto}(h:sO w E D M K Q m n s)(o:Op)(a:o.text.size<=1000000):OL (cR s o).2.1:=by
 obtain⟨J,base,vc,vr,vn,vo,vt,vu,vk,vb,la,lc,lu,h,ra,rc,ru,da,dc,bs,sy,H⟩:=h;exact Sd H.sto o a
theorem lA{w w':World}{B:Nat}{o:Obj}(d:B<=w.heap.size)(c:aN (fun b=>b≠w.heap.size) (w.alloc o) w'):Below B w w':=
 ((aJ (ok:=fun b=>b<B) (aB w o)).trans (c.mono fun b _ e=>by show (_:Nat)≠_;omega)).below (B:=B) (fun k a=>⟨qo,a⟩)
def XP(E D:Nat)(M K:nP)(Q m n:Nat)(s:Sto)(q:bY)(w:World)(e:Ending)(w':World):Prop:=
 e=.returned (.string (eW s q.data.toList).2)/\∃(c K':nP) (a:Nat),sO w' E D c K' Q a (n+1) (eW s q.data.toList).1/\(∀b,c b->M b\/w.heap.size<=b)/\(∀b,K' b->K b\/w.heap.size<=b)/\aN (fun b=>¬M b) w w'/\m<=a/\a<=m+400+q.size/\(∀o,iV q.data.toList=some o->(cR s o).2.2.2≠0->a=m)/\(iV q.data.toList=none->a=m)
theorem EF{s:Sto}{q:lU}(h:iV q=none):eW s q=(s,Uh):=by unfold eW;rw[h]
theorem EG{s:Sto}{q:lU}{o:Op}(h:iV q=some o):eW s q=((cR s o).1,tL (cR s o).2.1):=by unfold eW;rw[h]
theorem XQ{M K:nP}(E D Q m n k:Nat)(s:Sto)(q:bY)(N:q.size<=100000)(w:World)(Y:sO w E D M K Q m n s)(I:Gl w)(W:∀b,M b->6<=b)(U:lO k s)(hk:k<=900000)(hn:n<=800000)(Z:m+400+q.size<=Q)(X:Q<=900000):
 Calls prog 7 #[.pointer (some ⟨E,0,none⟩),.string q] w (XP E D M K Q m n s q w):=by
 obtain⟨S,G,R,d,HQ⟩:=gH (QY q N w I) Y I (And.intro W (And.intro U (And.intro hk (And.intro hn (And.intro Z X))))) N;obtain⟨F,H⟩:=xE (XP E D M K Q m n s q w);rw[<-H];have P:=aA H;clear Y I W U hk hn Z X N H;go_enter func7,ntmps7;go_wp2_with fail;refine S.o.mono ?_;rintro e w1 ⟨aa,rfl,a⟩;have p:=aA a;have r:=aA aa;clear a aa;obtain⟨OP,z⟩:=xE (iV q.data.toList);rw[<-z] at r;rw[<-z];have f:=aA z;clear z S
 rcases OP with _|o
 .have i:=aA (EF (s:=s) f.o.symm);have ad:=f;clear r;unfold fE bZ;dsimp only[Option.isSome,Option.getD];go_upto_region 2 with (refine dP rfl _ (.tmp 5) (.tmp 10) rfl w1.heap.size _ rfl rfl _ _ (aK _ _ _ rfl) (by kernel_rfl) rfl (by simp[Value.oneCell']) ?_;intro w2 v j)
  have c:=qB p (lA (lR _) j.o);clear v j p;go_wp2;have C:=P.o;subst C;refine⟨by rw[i.o];rfl,M,K,m,?_,fun b a=> .inl a,fun b a=> .inl a,(aJ c.o).mono (fun b a _=>a),lR _,qo,fun o L=>absurd (ad.o.trans L) qs,fun _=>rfl⟩;rw[i.o];exact(G.o.on c.o).more (Nat.le_succ n)
 .have HG:=aA (r.o o rfl);have i:=aA (EG (s:=s) f.o.symm);unfold fE bZ;dsimp only[Option.isSome,Option.getD];go_upto_region 2 with (refine dP rfl _ (.tmp 5) (.tmp 10) rfl w1.heap.size _ rfl rfl _ _ (aK _ _ _ rfl) (by kernel_rfl) rfl (by simp[Value.oneCell']) ?_;intro w2 v j)
  have c:=qB p (lA (lR _) j.o);clear j p r;obtain⟨⟨b0,b1,b2,b3,b4,b5,b6,b7,b8,b9,af,ag⟩,-⟩:=bL v.o;have zb:=aD v.o;have ab:o.text.size<=q.size:=by have:=Xk f.o.symm;rwa [Array.length_toList] at this
  have T:=aA ab;have g:=Xc E D Q m n k s o HG.o w2 (G.o.on c.o) ((R.o.on c.o).aEm) d.o.2.1 d.o.2.2.1 d.o.2.2.2.1 (qA d.o.2.2.2.2.1) d.o.2.2.2.2.2;unfold fE bZ at g;have g:=aA g;clear ab;go_wp2_with fail;refine g.o.mono ?_;rintro e w3 ⟨rfl,M',K',m',V,y,x,l,A,J,B⟩;obtain⟨HE,ae,t⟩:=aY V (And.intro y (And.intro x (And.intro l (And.intro A (And.intro J B))))) (G.o.rep o (qD T.o HQ.o));have HA:=aA (Gc (cR s o).2.1 t.o.mark t.o.val t.o.err t.o.at_ w3 ((R.o.on c.o).stay l (fun b a h=>qA (d.o.1 b h))));clear V y x l A J B g b0 b1 b2 b3 b4 b5 b6 b7 b8 b9 af ag zb;go_wp2_with fail;refine HA.o.mono ?_;rintro e w4 ⟨rfl,a⟩;have O:=aA a;clear a;go_wp2;have C:=P.o;subst C;obtain⟨y,x,l,A,J,B⟩:=ae.o;have hz:=c.o.size;refine⟨by rw[i.o];rfl,M',K',m',?_,fun b a=>(y b a).imp id (fun h=>by omega),fun b a=>(x b a).imp id (fun h=>by omega),?_,A,qA T.o,fun o' L ah=> ?_,fun ai=>absurd (f.o.trans ai) qs⟩
  .rw[i.o];exact HE.o.on O.o
  .exact((aJ c.o).mono (fun b a _=>a)).trans (l.trans ((aJ O.o).mono (fun b a _=>a)))
  .have h1:=f.o.trans L;injection h1 with h1;subst h1;exact B ah
theorem Gf(w:World):Calls prog 69 #[(Value.slice none 0 0)] w fun e w'=>e=.returned (Value.slice none 0 0)/\w'=w:=by
 have heq:=Lib.run_eql_slice_nil (P:=prog) w 93 5 none 0 0 0 0 underlying93;go_enter func69,ntmps69;go_wp2;go_ret;exact⟨rfl,rfl⟩
theorem Gg(w:World):Calls prog 136 #[(Value.slice none 0 0)] w fun e w'=>e=.returned (.tuple #[(Value.slice none 0 0),.bool false])/\w'=w:=by
 go_enter func136,ntmps136;go_wp2;go_ret2
 exact⟨rfl,rfl⟩
theorem Se(w:World):Calls prog 77 #[(Value.slice none 0 0)] w fun e w'=>e=.returned (.tuple #[(Value.slice none 0 0),.int .i64 0])/\w'=w:=by
 have a:=aA (Gg w);go_enter func77,ntmps77;go_wp2;go_loopw [4,5] (fun v i wr=>v=(Value.slice none 0 0)/\i=.int .i64 0/\wr=w) (fun _ _ _=>0)
 case atStart=>exact⟨rfl,rfl,rfl⟩
 case round=>
  obtain⟨rfl,rfl,rfl⟩:=hrel;go_wp2_with fail;refine a.o.mono ?_;rintro e w1 ⟨rfl,rfl⟩;go_wp2;go_ret2
  exact⟨rfl,rfl⟩
theorem ZU(Q:Nat)(a:Q<=1000000)(w:World):Calls prog 22 #[.int .i64 Q] w fun e w'=>e=.returned (.tuple #[.pointer (some ⟨w.heap.size,0,none⟩),.int .i64 0])/\w'=w.alloc (pD Q none 0 0 0):=by
 have d1:¬((Q:Int)<0):=qo;have d2:¬((1048576:Int)<(Q:Int)):=qo;go_enter func22,ntmps22;go_wp2;go_ret2
 exact⟨rfl,rfl⟩
theorem Mz(D Q:Nat)(sy:Int)(w:World)(h:w.heap[D]? =some (pD Q none 0 0 sy)):Calls prog 78 #[.pointer (some ⟨D,0,none⟩)] w fun e w'=>e=.returned (Value.slice none 0 0)/\w'=w:=by
 obtain⟨⟨d0,d1,d2,d3,d4⟩,_⟩:=dJ h;have b:=aD h;have a:=aA (Gf w);clear h;go_enter func78,ntmps78;go_wp2_with fail;refine a.o.mono ?_;rintro e w1 ⟨rfl,rfl⟩;go_wp2;go_ret;exact⟨rfl,rfl⟩
theorem Sf(D Q m b:Nat)(a:oD)(sy:Int)(w:World)(h:w.heap[D]? =some (pD Q a m b sy)):Calls prog 79 #[.pointer (some ⟨D,0,none⟩)] w fun e w'=>e=.returned (.int .i64 m)/\w'=w:=by
 obtain⟨⟨d0,d1,d2,d3,d4⟩,_⟩:=dJ h;have c:=aD h;clear h;go_enter func79,ntmps79;go_wp2;go_ret;exact⟨rfl,rfl⟩
theorem Na(D Q:Nat)(w:World)(h:w.heap[D]? =some (pD Q none 0 0 0)):Calls prog 46 #[.pointer (some ⟨D,0,none⟩)] w fun e w'=>∃J,w.heap.size<=J/\e=.returned (.tuple #[.pointer (some ⟨J,0,none⟩),.int .i64 0])/\w'.heap[J]? =some (DL D (Value.slice none 0 0))/\w'.heap[D]? =some (pD Q none 0 0 0)/\J<w'.heap.size/\aN (fun b=>b≠D) w w':=by
 obtain⟨c,a,d,g⟩:=dH (Mz D Q 0 w h) (Sf D Q 0 0 none 0 w h) (Se w) (PE D Q 0 0 none 0 w h);have j:=aD h;have l:=aA j;clear h j;go_enter func46,ntmps46;go_wp2_with fail;refine c.o.mono ?_;rintro e w1 ⟨rfl,rfl⟩;go_wp2_with fail;refine d.o.mono ?_;rintro e w1 ⟨rfl,rfl⟩;go_wp2_with fail;refine a.o.mono ?_;rintro e w1 ⟨rfl,rfl⟩;go_wp2_with fail;refine g.o.mono ?_;rintro e w2 ⟨rfl,h2,i⟩;have k:=aA h2;have f:=aA i;clear h2 i c a d g;go_wp2;go_ret2
 have m:=f.o.size;have n:=l.o;exact⟨w2.heap.size,m,rfl,aK _ _ _ rfl,aE k.o (aB _ _),qs,f.o.trans (aJ (aB w2 _))⟩
theorem Nb(J D:Nat)(w:World)(h:w.heap[J]? =some (DL D (Value.slice none 0 0))):Calls prog 48 #[.pointer (some ⟨J,0,none⟩)] w fun e w'=>e=.returned (Value.slice none 0 0)/\w'=w:=by
 obtain⟨⟨d0,d1,d2⟩,_⟩:=cE h;have a:=aD h;clear h;go_enter func48,ntmps48;go_wp2;go_loopw [3,11] (fun v i wr=>v=(Value.slice none 0 0)/\i=.int .i64 0/\wr=w) (fun _ _ _=>0)
 case atStart=>exact⟨rfl,rfl,rfl⟩
 case round=>
  obtain⟨rfl,rfl,rfl⟩:=hrel;go_wp2;go_ret;exact⟨rfl,rfl⟩
theorem Nc:xF=⟨#[112,111,108,105,99,121,32,111,112,101,110,32,112,101,114,109,105,116,117,110,108,101,115,115,32,123,32,125]⟩:=by kernel_rfl
def ON(w:World)(e:Ending)(w':World):Prop:=∃vc vr vn vo vt vu vk vb,e=.returned (.agg (aV lD vc vr vn vo vt vu vk vb))/\fD w' (fun b=>w.heap.size<=b) lD vc vr vn vo vt vu vk vb/\Below w.heap.size w w'
theorem Xl(w:World)(p:iA w):Calls prog 47 #[] w (ON w):=by
 obtain⟨W0,f⟩:=xE (w.alloc EB);have g:Below w.heap.size w W0:=by rw[f];exact aB _ _
 have R:Hid (W0.heap[w.heap.size]? =some EB):=aA (by rw[f];exact aK _ _ _ rfl);have c:=sJ xF W0 (p.on g);unfold vN at c;obtain⟨P,i⟩:=xE (fH xF);rw[<-i] at c;rw[Nc] at c;have t:Hid (lD=⟨0,[],[],[],[],P.1,0⟩):=aA (by rw[i];rfl);obtain⟨c,r,o⟩:=aY c g f;clear g f i p;unfold ON;rw[t.o];go_enter func47,ntmps47;go_upto_region 1 with (fail)
 rw[<-o.o];go_wp2_with fail;refine c.o.mono ?_;rintro e w1 ⟨v,rfl,⟨vt,vr,vk,vo,rfl,hp⟩,a⟩;obtain⟨G,H,rfl,-⟩:=hp.2.2.1.slice;obtain⟨ra,rc,rfl,-⟩:=hp.2.2.2.1.slice;obtain⟨C,D,rfl,-⟩:=hp.2.2.2.2.1.slice;obtain⟨E,F,rfl,-⟩:=hp.2.2.2.2.2.slice;obtain⟨z,s,j⟩:=aY hp a (aE R.o a);clear hp a;go_upto_region 2 with (refine dP rfl _ (.tmp 1) (.tmp 6) rfl w1.heap.size _ rfl rfl _ _ (aK _ _ _ rfl) (by kernel_rfl) rfl (by simp[Value.oneCell']) ?_;intro w2 l m)
 have d:=aA (lA (lR _) m.o);have I:=aA (aD j.o);have A:=aA (z.o.aDw (aJ d.o));have x:=qK j d.o;obtain⟨⟨T,U,V,W,X,p5,p6⟩,-⟩:=bI l.o;have Z:=aD l.o;clear m;go_wp2_with (refine dP rfl _ (.tmp 0) (.tmp 10) rfl w.heap.size _ rfl rfl _ _ x.o (by kernel_rfl) rfl (by simp[Value.oneCell']) ?_;intro Y y n)
 obtain⟨⟨a0,J,a2,a3,a4,a5,M,N,O,a9,K,L,a12⟩,-⟩:=bS y.o;refine bR (.agg #[.int .i64 0,.slice none 0 0,.slice none 0 0,.slice none 0 0,.slice none 0 0,.string P.1.id,.bool P.1.set,.int .i64 P.1.alg,.slice G P.1.aDy.length H,.slice ra P.1.aDq.length rc,.slice C P.1.aDD.length D,.slice E P.1.aDE.length F,.int .i64 0]) ?_;have Q:w.heap.size<W0.heap.size:=by rw[o.o];simp
 have S:=d.o.size;exact⟨_,_,_,_,_,_,_,_,rfl,⟨XO,XO,aH.nil,aH.nil,aH.nil,aH.nil,(A.o.aDw (n.o.mono (fun b _ a=>by have:W0.heap.size<=b:=a;show b≠w.heap.size;omega))).more (fun b a=>by have:W0.heap.size<=b:=a;omega),IW,IW,IW⟩,((aJ (ok:=fun b=>b<w.heap.size) (aC r.o (aC s.o d.o))).trans (n.o.mono (fun b _ a=>by have:b<w.heap.size:=a;show b≠w.heap.size;omega))).below (B:=w.heap.size) (fun k q=>⟨q,q⟩)⟩
theorem iA.far{w w':World}{D:Nat}(h:iA w)(a:aN (fun b=>b≠D) w w')(c:6<=D):iA w':=h.stay a (by show 2≠D;omega)
def RJ(D Q:Nat)(w:World)(e:Ending)(w':World):Prop:=∃(E J:Nat) (K:nP),e=.returned (.tuple #[.pointer (some ⟨E,0,none⟩),.int .i64 0])/\sO w' E D (fun b=>b=E\/b=J\/b=D) K Q 0 0 lD/\w.heap.size<=E/\w.heap.size<=J/\(∀b,K b->w.heap.size<=b)/\aN (fun b=>b≠D) w w'
theorem Nd(D Q:Nat)(w:World)(h:w.heap[D]? =some (pD Q none 0 0 0))(k:iA w)(p:6<=D):Calls prog 23 #[.pointer (some ⟨D,0,none⟩)] w (RJ D Q w):=by
 obtain⟨o,z,A,y⟩:=dH (Na D Q w h) (aD h) k p;obtain⟨S,s⟩:=xE lD;have g:=aA (fun w1 (k:iA w1)=>Xl w1 k);unfold ON at g;unfold RJ;rw[<-s] at g ⊢;clear h k p s;go_enter func23,ntmps23;go_wp2_with fail;refine o.o.mono ?_;rintro e w1 ⟨J,q,rfl,hj,t,r,m⟩;have n:=aA (g.o w1 (A.o.far m y.o));have H1:=aA (And.intro q (And.intro hj (And.intro t (And.intro r m))));clear q hj t r m o g;go_wp2_with fail;refine n.o.mono ?_;rintro e w2 ⟨vc,vr,vn,vo,vt,vu,vk,vb,rfl,x,a⟩;have B:=aA x;have f:=aA a;have c:=Nb J D (w2.alloc (pH J S vc vr vn vo vt vu vk vb (.slice none 0 0) 0)) (aE (aE H1.o.2.1 a) (aB _ _));have v:n64 0=0:=rfl;unfold pH at c;rw[v] at c;have c:=aA c;unfold aV;clear x a n v;go_wp2_with fail;refine c.o.mono ?_;rintro e L ⟨rfl,rfl⟩;clear c;obtain⟨E,d⟩:=xE (w2.alloc (pH J S vc vr vn vo vt vu vk vb (.slice none 0 0) 0));have l:=aA d;unfold pH at d;rw[show n64 0=0 from rfl] at d;rw[<-d];clear d;go_wp2;go_loopw [30] (fun i wr=>i=.int .i64 0/\wr=E) (fun _ _=>0)
 case atStart=>exact⟨rfl,rfl⟩
 case round=>
  obtain⟨rfl,rfl⟩:=hrel;go_wp2;go_ret2
  have j:Below w2.heap.size w2 wr:=by rw[l.o];exact aB _ _
  have K:wr.heap.size=w2.heap.size+1:=by rw[l.o];simp
  have H:=H1.o.2.2.2.2.size;have I:=f.o.size;have G:=z.o;have C:=H1.o.1;have F:=H1.o.2.2.2.1;refine⟨w2.heap.size,J,(fun b=>w1.heap.size<=b/\b<w2.heap.size),rfl,⟨J,wr.heap.size,vc,vr,vn,vo,vt,vu,vk,vb,none,0,[],0,none,0,[],none,0,[],0,?_⟩,qo,C,fun b a=>by omega,(H1.o.2.2.2.2.trans (aJ f.o)).trans (aJ j)⟩;exact {
   eng:=by rw[l.o];exact aK _ _ _ rfl
   jou:=aE (aE H1.o.2.1 f.o) j
   dsk:=aE (aE H1.o.2.2.1 f.o) j
   sto:=B.o.inb.aDw (aJ j)
   log:=aM.nil
   aEi:=aM.nil
   byt:=jF.nil
   len:=rfl
   lts:=⟨qo,qo,qo,lR _⟩
   nes:=⟨qo,qo,qo⟩
   mem:=⟨.inl rfl,.inr (.inl rfl),.inr (.inr rfl)⟩
   aEb:=fun b a=>by simp[Value.ownBlock] at a
   aEa:=fun b a=>by simp[Value.ownBlock] at a
   kept:=fun b a=>⟨fun h=>by rcases h with h|h|h<;>omega,qo⟩
   low:=fun b a=>by rcases a with h|h|h<;>omega
   rows:=⟨lR _,lR _⟩}
def RM(Q:Nat)(w:World)(e:Ending)(w':World):Prop:=∃(E D:Nat) (M K:nP),e=.returned (.tuple #[.pointer (some ⟨E,0,none⟩),.pointer (some ⟨D,0,none⟩)])/\sO w' E D M K Q 0 0 lD/\(∀b,M b->w.heap.size<=b)/\(∀b,K b->w.heap.size<=b)/\Below w.heap.size w w'
theorem Nf(Q:Nat)(t:Q<=1000000)(w:World)(o:Gl w)(h6:6<=w.heap.size):Calls prog 11 #[.int .i64 Q] w (RM Q w):=by
 have i:=aA (ZU Q t w);obtain⟨W0,c⟩:=xE (w.alloc (pD Q none 0 0 0));have j:Below w.heap.size w W0:=by rw[c];exact aB _ _
 have n:=aA (Nd w.heap.size Q W0 (by rw[c];exact aK _ _ _ rfl) (o.on j).aEm h6);have s:Hid (W0.heap.size=w.heap.size+1):=aA (by rw[c];simp);have q:=aA j;rw[<-c] at i;clear j c o h6;unfold RM;go_enter func11,ntmps11;go_wp2_with fail;refine i.o.mono ?_;rintro e w1 ⟨rfl,rfl⟩;go_wp2_with fail;refine n.o.mono ?_;rintro e w2 ⟨E,J,K,rfl,d,l,m,f,g⟩;have r:=aA (And.intro d (And.intro l (And.intro m (And.intro f g))));clear d l m f g n i;go_wp2;go_ret2
 obtain⟨d,l,m,f,g⟩:=r.o;have v:=s.o;exact⟨E,w.heap.size,_,K,rfl,d,fun b a=>by rcases a with h|h|h<;>omega,fun b a=>qA (f b a),((aJ (ok:=fun b=>b<w.heap.size) q.o).trans (g.mono (fun b _ a=>by have:b<w.heap.size:=a;show b≠w.heap.size;omega))).below (B:=w.heap.size) (fun k p=>⟨p,p⟩)⟩
theorem QBO{p:Prop}(h:p:=by
 have HV:=aA ((HG.o.sl (by rw[HM.o,List.length_map,List.length_take];have:=HN.o;omega) (fun b=>w.heap.size<=b) (fun b h _=>h.elim) (fun b h _=>h) vY));go_wp2;go_ret;exact⟨_,rfl,HV.o,HB.o⟩):p:=h
def Sg:Rep ByteArray:=mT (fun s=>[.string s]) (fun s=>s.size<=maxLen)
theorem vY:Firm Sg 1:=gI (fun _=>rfl) (fun x v h=>by simp only[List.mem_cons,List.not_mem_nil,or_false] at h;rw[h];rfl)
theorem aAU:dZ prog 22 9 1 16:=fQ (z:= .string ByteArray.empty) underlying22 (by kernel_rfl) rfl qe
def OO(s:bY):ByteArray:=s.extract 0 (min s.size 600)
theorem Ng(s:bY):(OO s).size<=600:=by unfold OO;rw[ByteArray.size_extract];omega
def zK(l:List ByteArray)(n:Nat):List ByteArray:=(l.take n).map OO
def RN(L:List ByteArray)(w:World)(e:Ending)(w':World):Prop:=∃v,e=.returned v/\aH Sg w' (fun b=>w.heap.size<=b) v L/\Below w.heap.size w w'
theorem SI{α β:Type}(f:α->β){l:List α}{k:Nat}(h:k<l.length):(l.take (k+1)).map f=(l.take k).map f++[f l[k]]:=by
 rw[List.take_add_one,gE h,Option.toList_some,List.map_append];rfl
theorem aAm{α:Type}{R:Rep α}{s:Nat}{e:TypeId}{w:World}{base:Nat}{ok:nP}{v:Value}{l:List α}(h:aM R s e w base ok v l){b:Nat}(a:v.ownBlock=some b):base<=b/\b<w.heap.size:=h.lt b a
theorem Nh{ok:nP}(a:oD)(c:Nat)(l:List ByteArray)(J:l.length<=maxLen)(n:Nat)(O:n<=1000)(w:World)(h:∀k (hk:k<l.length),∃b off,a=some ⟨b,off,none⟩/\b<w.heap.size/\w.cell? ⟨b,off+k,none⟩=some (.string l[k])/\l[k].size<=maxLen):Calls prog 5 #[.slice a l.length c,.int .i64 n] w (RN (zK l n) w):=by
 obtain⟨W,HL,HN⟩:=aY h J O;obtain⟨L,y⟩:=xE (zK l n);rw[<-y];have G:=aA y;unfold RN;clear h y O J;go_enter func5,ntmps5;go_wp2;go_loopw [5,6] (fun v i wr=>∃(k:Nat) (m:List ByteArray),k<=n/\k<=l.length/\i=.int .i64 k/\Hid (m=(l.take k).map OO)/\Hid (aM Sg 1 9 wr w.heap.size (fun _=>False) v m)/\Hid (Below w.heap.size w wr)) (fun _ i _=>n - (intOf i).toNat)
 case atStart=>exact⟨0,[],qo,qo,rfl,aA rfl,aA aM.nil,aA (Below.refl _ _)⟩
 case round=>
  obtain⟨k,m,ad,ab,rfl,HM,HG,HB⟩:=hrel;obtain⟨A,X,rfl⟩:=HG.o.slice;by_cases h1:k<l.length
  .have d1:(k:Int)<(l.length:Int):=qo;by_cases h2:k<n
   .have d2:(k:Int)<(n:Int):=qo;obtain⟨b,off,rfl,j,o,D⟩:=W.o k h1;have N:m.length=k:=by rw[HM.o,List.length_map,List.length_take];omega
    have V:=aA N;obtain⟨x,C⟩:=xE (l[k]);rw[<-C] at o D;have Z:min (x.size:Int) 600=((min x.size 600:Nat):Int):=qo;obtain⟨q,B⟩:=xE (min x.size 600);rw[<-B] at Z;have q1:(0:Int)<=(q:Int):=qo;have q2:(q:Int)<=(x.size:Int):=qo;have s:=aA (And.intro C (And.intro B D));have HC:=aA (And.intro j o);have i0:(0:Int)<=(k:Int):=qo;have i1:(k:Int)<(l.length:Int):=d1;clear N C B D;go_upto_region 5 with (fail)
    have F:Hid (Below wr.heap.size wr wr.drew):=aA (Below.refl _ _).drew;have I:b<wr.heap.size:=lL j HB.o.size;have g:wr.drew.cell? ⟨b,off+k,none⟩=some (.string x):=(HB.o.cell (p:=⟨b,off+k,none⟩) j).trans o;have P:(Value.slice A m.length X).ownBlock≠some b:=fun e=>by
     have:=(aAm HG.o e).1;omega
    have r:=aA (And.intro P I);clear j o P I;refine cD 14 [(0,false),(1,false),(2,false),(3,false),(4,false),(5,false),(6,false),(7,false),(8,false),(9,false),(10,false),(11,false),(12,true),(13,true)] [(14,true)] (fun w'=>w'.cell? ⟨b,off+k,none⟩=some (.string x)) (by decide +kernel) (by decide +kernel) g ?_;simp only[List.cons_append,List.nil_append]
    repeat (refine dK rfl (fun K t=> ?_);unfold rd;go_simp;refine t _ (fun ae h1=> ?_) ?_;(· clear t K g;have g:=h1;unfold rd;go_simp);clear t K)
    have E:=aA (((aB wr.drew (.cells #[.string (x.extract 0 q)] 9)).cell (p:=⟨b,off+k,none⟩) r.o.2).trans g);clear g;refine bJ rfl (fun f d=> ?_);unfold mv;go_simp;refine d _ (World.alloc _ (.cells #[.string (x.extract 0 q)] 9)) (fun _=>E.o) ?_;clear d f;refine bJ rfl (fun f d=> ?_);unfold mv;refine jC (base:=w.heap.size) aAU vY rfl (.tmp 18) (.tmp 30) rfl _ m rfl (HG.o.on vY (aC F.o (aB _ _))) wr.heap.size 1 _ _ _ (x.extract 0 q) rfl (aK _ _ _ rfl) ⟨rfl,by show (x.extract 0 q).size<=maxLen;rw[ByteArray.size_extract];have:=s.o.2.2;unfold maxLen at *;omega⟩ (qD V.o HN.o) qe (lT HB.o.size (aB _ _).size) ?_;intro Q M A' c' w2 H z aa;have U:Hid (Q=(l.take (k+1)).map OO):=aA (by rw[M.o,HM.o,SI OO h1,<-s.o.1,s.o.2.1];rfl);have T:=aA H;have R:=aA (HG.o.below HB.o (YR (aC F.o (aB _ _)) z) (lR _) HB.o.size);have S:=aA (World.cell?_of_block (a:=⟨b,off+k,none⟩) (z.block b (lL r.o.2 (aB _ _).size) (fun e=>r.o.1 e.symm))▸E.o);clear H z aa M;refine d _ _ (fun _=>S.o) ?_;clear d f;refine bJ rfl (fun f d=> ?_);unfold mv;go_simp;refine d _ _ (fun h=>absurd h qe) ?_;clear d f;unfold cJ;have q9:IntKind.i64.wrap ((k:Int)+1)=((k+1:Nat):Int):=by rw[IntWalk.i64_in _ (qA HN.o)];omega
    go_wp2;go_roundw
    case rel=>exact⟨k+1,Q,qo,qo,by go_num,U,T,R⟩
    case measure=>simp[intOf];omega
   .have d2:¬((k:Int)<(n:Int)):=qo;have Y:L=m:=by
     rw[G.o,HM.o];unfold zK;rw[show k=n by omega]
    exact QBO
  .have d1:¬((k:Int)<(l.length:Int)):=qo;have Y:L=m:=by
    rw[G.o,HM.o];unfold zK;rw[show k=l.length by omega,List.take_of_length_le (lR _),List.take_of_length_le qo]
   exact QBO
end Go.Proofs.YtjlkljmickcacaaGreatDoor
