/- Lemmas. -/
import Derived.Test.YtlfngkelmbdehaaGreatDoorMbr
import Derived.Test.YtlfngkelmbdehaaGreatDoorMbp
namespace Go.Proofs.YtlfngkelmbdehaaGreatDoor
open Go.RowKit
set_option linter.unusedVariables false
set_option linter.unusedSimpArgs false
set_option maxHeartbeats 16000000
open _root_.Go.Proofs.Tryz
set_option maxRecDepth 20000
theorem QAl{p:Prop}(h:p:=by
 by_cases z5:0<r.at_
 .have HN2:=aA (HN.o.trans (iP ⟨z0,z5⟩));have d5:decide (r.at_ > (0:Int))=true:=dX z5;have p0:∀p:In (AX W0),p.w.cell? ⟨w.heap.size,0,none⟩=some (.int .i64 r.err):=fun p=>(p.h.cell zr).trans r0
  have p7:∀p:In (AX W0),p.w.cell? ⟨w.heap.size,7,none⟩=some (.int .i64 r.at_):=fun p=>(p.h.cell zr).trans r7
  have HX:=aA (fun (n:Int) (hn:bK n) w' (hb':Below W0.heap.size W0 w')=>(AS n hn w' (HG.o.on hb')).mono fun e w2 (h:lB _ w' e w2)=>(⟨h.1,aC hb' h.2⟩:e=_/\Below W0.heap.size W0 w2));have hs1:=uE r.err HE.o;have hs2:=uE r.at_ HA.o;have HX1:=aA (HX.o r.err HE.o);have HX2:=aA (HX.o r.at_ HA.o);obtain⟨L1,hL1⟩:=xE (mF r.err);obtain⟨L2,hL2⟩:=xE (mF r.at_);rw[<-hL1,<-hL2] at HN2;rw[<-hL1] at hs1 HX1;rw[<-hL2] at hs2 HX2;obtain⟨l1,hl1⟩:=xE (bs L1);obtain⟨l2,hl2⟩:=xE (bs L2);rw[<-hl1] at hs1 HX1;rw[<-hl2] at hs2 HX2;have HL1:=aA hl1;have HL2:=aA hl2;clear hL1 hL2 z0 z5 HX hl1 hl2;go_upto_region 4 with (fail)
  refine BS (C:=AX W0) (by kernel_rfl) (by kernel_rfl) (RZ W0) ?_
  repeat (go_big_quiet_step (first|exact in_call fun w' hb=>HX1.o w' hb|exact in_call fun w' hb=>HX2.o w' hb))
  refine wpQuiet_nil ?_;intro w2 hb2;have HB2:=qB HB0 (show Below W0.heap.size W0 w2 from hb2);clear hb2;go_wp2;go_ret;exact⟨by rw[HN2.o,HL1.o,HL2.o];rfl,HB2.o⟩
 .have HN2:=aA (HN.o.trans ((iN (fun h=>z5 h.2)).trans (iP z0)));have d5:decide (r.at_ > (0:Int))=false:=dF z5;have HX:=aA (AS r.err HE.o W0 HG.o);have hs1:=uE r.err HE.o;generalize mF r.err=L1 at *;clear z0 z5;go_wp2_with fail;refine HX.o.mono ?_;rintro e w2 ⟨rfl,hb⟩;have HB2:=qB HB0 hb;clear hb;go_wp2;go_ret;exact⟨by rw[HN2.o];rfl,HB2.o⟩):p:=h
theorem Lf(m:Mk):Cm.bS m=bs (EZ m):=by
 unfold Cm.bS EZ;split
 .rfl
 split
 .rfl
 split
 .rfl
 split
 .rfl
 split
 .rfl
 split
 .rfl
 rfl
theorem Lg(m:Mk):(bs (EZ m)).size<=100:=by
 unfold EZ
 repeat (split;(· decide))
 decide
theorem Lh(v:V3)(a:cR v):(bs (vC v)).size<=1000100:=by
 have b:=uE v.2.1 a.2.1;rw[cG] at b ⊢;have e:v.2.2.data.toList.length<=1000000:=by rw[Array.length_toList];exact a.2.2
 unfold vC;split
 .simp
 rename_i c;split
 .split<;>decide
 split
 .rw[aL];simp only[List.length_cons,List.length_nil];omega
 split
 .rw[aL];simp only[List.length_cons,List.length_nil];omega
 split
 .rename_i h3;have h64:v.2.2.size<=64:=GY (n:=v.2.1) (s:=v.2.2) (by
   have h4:v=(3,v.2.1,v.2.2):=by rw[<-h3]
   rw[<-h4];simpa using c)
  have d:=AR v.2.2.data.toList;have h5:v.2.2.data.toList.length=v.2.2.size:=by rw[Array.length_toList];rfl
  have h6:FA v.2.2.data.toList=tE v.2.2.data.toList++[34]:=rfl;rw[h6,aL];simp only[List.length_cons,List.length_nil];omega
 .omega
theorem Et(r:Rpl)(hm:Cm.QP r.mark)(A:cR r.val)(he:bK r.err)(ha:bK r.at_)(w:World)(z:Gl w):Calls prog 20 #[.agg (eU r)] w (lB (.string (FB r)) w):=by
 obtain⟨O,q⟩:=xE (Aj r);unfold FB;rw[<-q];obtain⟨k,B,v,HE,HA⟩:=gB q (Cm.zU r.mark hm) A he ha;obtain⟨W0,c⟩:=xE (w.alloc (.cells (eU r) 77));have o:Below w.heap.size w W0:=by rw[c];exact aB _ _
 have R:Hid (W0.heap[w.heap.size]? =some (.cells (eU r) 77 (0,0))):=aA (by rw[c];exact aK _ _ _ rfl);have HB0:=aA o;have HG:=aA (z.on o);unfold eU at c R ⊢;have D:=aA c;unfold lB;clear o c q A he ha z;obtain⟨⟨r0,I,J,K,M,N,P,r7⟩,-⟩:=nL R.o;have zr:=aD R.o;obtain⟨y,s⟩:∃b,decide (r.mark=((4,0):Mk))=b:=⟨_,rfl⟩;have G:((FloatKind.f64.format.order (Cm.qb r.mark.1) 4607182418800017408==some .eq)&&(FloatKind.f64.format.order (Cm.qb r.mark.2) 0==some .eq))=y:=(Cm.iS r.mark.1 r.mark.2 4 0 hm qe qe).trans ((rZ r.mark (4,0)).trans s);have t:=aA s;clear s hm;go_enter func20,ntmps20;go_upto_region 1 with (fail)
 rw[<-D.o];by_cases h12:r.err=12
 .have d12:(r.err==(12:Int))=true:=bQ.2 h12;have z0:r.err≠0:=qo;have m:(r.err != (0:Int))=true:=bne_iff_ne.2 z0
  cases y
  .have HN:=aA (k.o.trans (iP ⟨h12,of_decide_eq_false t.o⟩));have H:=Lg r.mark;have l:=aA (B.o W0);rw[Lf r.mark] at l;clear h12 z0 m;generalize EZ r.mark=L at *;unfold Cm.mk at l;go_wp2_with fail;refine l.o.mono ?_;rintro e w1 ⟨rfl,rfl⟩;go_wp2;go_ret;exact⟨by rw[HN.o];rfl,HB0.o⟩
  .have HN:=aA (k.o.trans (iN (fun h=>h.2 (of_decide_eq_true t.o))));clear h12;exact QAl
 .have d12:(r.err==(12:Int))=false:=bN.2 h12;have HN:=aA (k.o.trans (iN (fun h=>h12 h.1)));clear h12;by_cases z0:r.err=0
  .have m:(r.err != (0:Int))=false:=by rw[z0];rfl
   have HN2:=aA (HN.o.trans ((iN (fun h=>h.1 z0)).trans (iN (fun h=>h z0))));clear z0;by_cases g:r.aC7=true
   .have d:=aA (HN2.o.trans (iP g));go_wp2;go_ret;exact⟨by rw[d.o];rfl,HB0.o⟩
   .have d:=aA (HN2.o.trans (iN g));have dg:r.aC7=false:=by simpa using g
    clear g;by_cases i:r.hidden=true
    .have f:=aA (d.o.trans (iP i));go_wp2;go_ret;exact⟨by rw[f.o];rfl,HB0.o⟩
    .have f:=aA (d.o.trans (iN i));have F:r.hidden=false:=by simpa using i
     clear i;by_cases a:r.val=bD
     .have j:=aA (f.o.trans (iN (fun h=>h a)));have E:∀w,Sem.run prog (binOp .neq 44 (.agg #[.int .i64 r.val.1,.int .i64 r.val.2.1,.string r.val.2.2]) (.agg #[.int .i64 0,.int .i64 0,.string ⟨#[]⟩])) w=.ok (.bool false) w:=fun w=>(yK r.val bD w).trans (by rw[dX a];rfl)
      clear a;go_wp2;go_ret;exact⟨by rw[j.o];rfl,HB0.o⟩
     .have j:=aA (f.o.trans (iP a));have E:∀w,Sem.run prog (binOp .neq 44 (.agg #[.int .i64 r.val.1,.int .i64 r.val.2.1,.string r.val.2.2]) (.agg #[.int .i64 0,.int .i64 0,.string ⟨#[]⟩])) w=.ok (.bool true) w:=fun w=>(yK r.val bD w).trans (by rw[dF a];rfl)
      have HX:=aA (Le r.val v.o W0 HG.o);have hs1:=Lh r.val v.o;unfold dA at HX;clear a;generalize vC r.val=L at *;go_wp2_with fail;refine HX.o.mono ?_;rintro e w2 ⟨rfl,hb⟩;have HB2:=qB HB0 hb;clear hb;go_wp2;go_ret;exact⟨by rw[j.o];rfl,HB2.o⟩
  .have m:(r.err != (0:Int))=true:=bne_iff_ne.2 z0;exact QAl
structure eF (p:PS):Prop where
 b0:0<=p.bad
 b1:p.bad<=100
 q0:0<=p.place
 q1:p.place<=1000000
section
variable {L:List Tok} (T:Toks L)
theorem WC{e q:Int}{p:PS}(h:eF p)(h0:0<=e)(h1:e<=100)(h2:0<=q)(h3:q<=1000000):eF (eM e q p):=by
 unfold eM;split
 .exact⟨h0,h1,h2,h3⟩
 .exact h
include T
theorem Vq(p:PS):0<=(aU L p).at_/\(aU L p).at_<=4096:=by
 unfold aU
 rcases h:L[p.at_]? with _|t
 .exact⟨qe,qe⟩
 .exact T.place t (List.mem_of_getElem? h)
theorem AT{e:Int}(r:PS){p:PS}(h:eF p)(h0:0<=e)(h1:e<=100):eF (eM e (aU L r).at_ p):=by
 have:=Vq T r;exact WC h h0 h1 this.1 qo
theorem pD{p:PS}(h:eF p):eF (dK L p):=AT T p h qe qe
theorem tF(b:Bool){p:PS}(h:eF p):eF (cQ L b p):=by
 unfold cQ;split
 .exact AT T p h qe qe
 .exact h
omit T in
theorem mX{p:PS}{n:Nat}(h:eF p):eF {p with at_:=n}:=⟨h.b0,h.b1,h.q0,h.q1⟩
omit T in
theorem Vr(s:bY){p:PS}(h:eF p):eF (kJ L s p).2:=by
 unfold kJ;split
 .exact mX h
 .exact h
theorem pN(s:bY){p:PS}(h:eF p):eF (eG L s p):=by
 unfold eG;split
 .exact mX h
 .exact pD T h
theorem yQ{p:PS}(h:eF p):eF (bS L p).2:=by
 unfold bS;dsimp only;by_cases a:(aU L p).aCF≠1
 .rw[iP a];split
  .exact pD T h
  .exact mX (pD T h)
 .rw[iN a];split
  .exact h
  .exact mX h
theorem pE(words:List ByteArray){p:PS}(h:eF p):eF (aZ L words p).2:=by
 unfold aZ;dsimp only;split
 .exact mX h
 .exact pD T h
theorem Aq{p:PS}(h:eF p):eF (cD L p).2:=by
 unfold cD;dsimp only;exact Vr _ (yQ T (pN T _ (pE T _ h)))
theorem PZ{p:PS}(h:eF p):eF (eO L p).2:=by
 unfold eO;dsimp only
 repeat (split;(· exact h))
 exact pD T h
theorem WE{p:PS}(h:eF p):eF (cX L p).2:=by
 rw[yY];split
 .exact PZ T h
 .exact mX (PZ T h)
theorem aAb{p:PS}(h:eF p):eF (sF L p).2:=by
 unfold sF
 repeat (split;(· exact mX h))
 exact pD T h
theorem WG{p:PS}(h:eF p):eF (eC L p).2:=by
 unfold eC;dsimp only;exact WE T (aAb T (Aq T h))
theorem yR{α:Type}{one:PS->α×PS}(a:∀{p:PS},eF p->eF (one p).2)(sep:bY):∀(f:Nat) (l:List α) {p:PS},eF p->eF (jR L one sep f l p).2
 |0,l,p,h=>h
 |f+1,l,p,h=>by
  unfold jR;split
  .exact yR a sep f _ (tF T _ (a (mX h)))
  .exact h
theorem Li{p:PS}(h:eF p):eF (iX L p).2:=by
 unfold iX;dsimp only;exact yR T (WG T) _ _ _ (WG T h)
theorem Lj{p:PS}(h:eF p):eF (lY L p).2:=by
 unfold lY;dsimp only;exact pN T _ (yR T (Li T) _ _ _ (Li T (pN T _ h)))
theorem DW{p:PS}(h:eF p):eF (bU L p).2:=by
 unfold bU;split
 .dsimp only;exact yR T (Lj T) _ _ _ (Lj T (mX h))
 .exact h
theorem Vs{p:PS}(h:eF p):eF (tG L p).2:=by
 unfold tG;dsimp only;exact yQ T (pE T _ (pE T _ h))
theorem AU{p:PS}(h:eF p):eF (gK L p).2:=yR T (Vs T) _ _ _ h
theorem Ar:∀(f:Nat) (l:List No) {p:PS},eF p->eF (eV L f l p).2
 |0,l,p,h=>by unfold eV;exact h
 |f+1,l,p,h=>by
  have c:∀{l:List No} {p:PS} (must:Bool),eF p->eF (dB L f (l,p) must).2:=by
   intro l p must h;unfold dB;dsimp only;split
   .exact h
   .have h1:=Ar f l h;split
    .exact AT T _ h1 qe qe
    .exact h1
  have b:∀(ms:List Bool) {l:List No} {p:PS},eF p->eF (ms.foldl (dB L f) (l,p)).2:=by
   intro ms
   induction ms with
   |nil=>intro l p h;exact h
   |cons m ms d=>
    intro l p h;have h1:=c (l:=l) m h;exact d h1
  unfold eV;dsimp only;by_cases a:cL L (str "(") p=true
  .rw[iP a];exact tF T _ (pN T _ (b (fI (2+(aZ L eB {p with at_:=p.at_+1}).1)) (l:=l) (pE T _ (mX h))))
  .rw[iN a];split
   .exact tF T _ (Aq T h)
   .exact tF T _ (WE T h)
theorem Eu(l:List No)(must:Bool){p:PS}(h:eF p):eF (jA L l must p).2:=by
 unfold jA;dsimp only;have h1:=Ar T L.length l h;split
 .exact AT T _ h1 qe qe
 .exact h1
theorem Vt(deny:Bool){p:PS}(h:eF p):eF (kK L deny p).2:=by
 unfold kK;dsimp only;refine pN T _ (AU T ?_);have h2:=DW T (yQ T h);split
 .exact Eu T _ _ (mX h2)
 .exact h2
theorem ND:∀(f:Nat) (l:List Ru) {p:PS},eF p->eF (iH L f l p).2
 |0,l,p,h=>by unfold iH;exact h
 |f+1,l,p,h=>by
  unfold iH;split
  .dsimp only;have h1:=tF T (decide (l.length=16)||decide (p.aCH=64)) h;split
   .exact h1
   .exact ND f _ (Vt T _ ⟨h1.b0,h1.b1,h1.q0,h1.q1⟩)
  .exact h
theorem NF{one:PS->Po×PS}(a:∀{p:PS},eF p->eF (one p).2)(deep:Bool):∀(f:Nat) (l:List Po) {p:PS},eF p->eF (gL L one deep f l p).2
 |0,l,p,h=>by unfold gL;exact h
 |f+1,l,p,h=>by
  unfold gL;split
  .dsimp only;have h1:=tF T (decide (l.length=16)||deep) h;split
   .exact h1
   .exact NF a deep f _ (a h1)
  .exact h
theorem Lk:∀(n:Nat) {p:PS},eF p->eF (cO L n p).2:=by
 intro n
 induction n with
 |zero=>
  intro p h;unfold cO;dsimp only;refine AU T (pN T _ ?_);have h5:=pN T qV (DW T (pE T dD (yQ T (pE T [str "policy",str "set"] h))));split
  .exact NF T (one:=fun q=>(lX,q)) (fun h=>h) true L.length [] h5
  .exact ND T L.length [] h5
 |succ n a=>
  intro p h;unfold cO;dsimp only;refine AU T (pN T _ ?_);have h5:=pN T qV (DW T (pE T dD (yQ T (pE T [str "policy",str "set"] h))));split
  .exact NF T a false L.length [] h5
  .exact ND T L.length [] h5
end
def Sm(x:List Tok×Int×Int):Prop:=0<=x.2.1/\x.2.1<=100/\0<=x.2.2/\x.2.2<=1000000
theorem Ll{n:Nat}(h:n<=10000):Sm ([],5,(n:Int)):=⟨by show (0:Int)<=5;decide,by show (5:Int)<=100;decide,by show (0:Int)<=(n:Int);omega,by show (n:Int)<=1000000;omega⟩
theorem Yq(l:List Tok):Sm (l,0,0):=⟨by show (0:Int)<=0;decide,by show (0:Int)<=100;decide,by show (0:Int)<=0;decide,by show (0:Int)<=1000000;decide⟩
theorem JE:∀(f:Nat) (l:lU) (n:Nat) (out:List Tok),n+l.length<=4096->Sm (jH f l n out)
 |0,l,n,out,h=>Ll qo
 |f+1,[],n,out,h=>Yq _
 |f+1,c::r,n,out,h=>by
  have a:=(pY (c::r) qo).le;rw[List.length_cons] at h a;unfold jH;dsimp only;split
  .exact JE f r (n+1) out qo
  .split
   .exact Ll qo
   .refine JE f _ _ _ ?_;rw[List.length_drop,List.length_cons];omega
theorem Yr(l:lU):Sm (jL l):=by
 unfold jL;split
 .exact⟨by show (0:Int)<=6;decide,by show (6:Int)<=100;decide,by show (0:Int)<=4096;decide,by show (4096:Int)<=1000000;decide⟩
 .exact JE _ _ _ _ qo
theorem Ys{l:List Tok}(T:Toks l)(S:bY)(b:S.size<=1000000)(X:Po×PS)(a:eF X.2):eF (wH S X.1 (ZZ l X.2)):=by
 have h2:eF (ZZ l X.2):=by
  unfold ZZ;split
  .exact pD T a
  .exact a
 unfold wH;split
 .exact WC h2 qe qe qo qo
 .exact h2
theorem Yt(P:Po){p:PS}(h:eF p):(0<=(uL P p).2.1/\(uL P p).2.1<=100)/\0<=(uL P p).2.2/\(uL P p).2.2<=1000000:=by
 unfold uL;split
 .exact⟨⟨h.b0,h.b1⟩,h.q0,h.q1⟩
 .exact⟨⟨Int.le_refl _,by show (0:Int)<=100;decide⟩,Int.le_refl _,by show (0:Int)<=1000000;decide⟩
theorem WH(S:bY)(c:S.size<=1000000):(0<=(fD S).2.1/\(fD S).2.1<=100)/\0<=(fD S).2.2/\(fD S).2.2<=1000000:=by
 have h:=Yr S.data.toList;have b:=SE (l:=S.data.toList);obtain⟨x,a⟩:=xE (jL S.data.toList);rw[<-a] at h b;obtain⟨l,e,q⟩:=x;by_cases he:e=0
 .subst he;have T:=(b rfl).1;rw[PA a.symm];exact Yt _ (Ys T S c _ (Lk T 3 ⟨qe,qe,qe,qe⟩))
 .rw[UZ a.symm he];exact⟨⟨h.1,h.2.1⟩,h.2.2.1,h.2.2.2⟩
structure NG (r:Rpl):Prop where
 mark:Cm.QP r.mark
 val:cR r.val
 err:bK r.err
 at_:bK r.at_
theorem xJ:cR bD:=⟨by unfold bD bK;simp,by unfold bD bK;simp,Nat.zero_le _⟩
theorem Ev{w:World}{ok:nP}{s:Sto}{vc vr vn vo vt vu vk vb:Value}{N:bY}{c:cF}(h:eY w ok s vc vr vn vo vt vu vk vb)(a:eR s N=some c)(F:bY):cR (gH c F):=by
 rcases EN s N with ⟨e,_⟩|⟨k,n,_,e⟩
 .rw[e] at a;cases a
 .rw[e] at a;injection a with a;subst a;have g:=h.aCD;obtain⟨o,p,rfl,_⟩:=g.slice;obtain⟨b,off,r,_,_,_,⟨v,x,_,m⟩,_⟩:=aH.at dS g n qe;have i:=m.2.2.2.1;obtain⟨q,t,rfl,_⟩:=i.slice;unfold gH
  rcases d:s.aCD[k].aCJ.find? (fun f=>decide (f.1=F)) with _|f
  .rw[d];exact xJ
  .rw[d];obtain⟨j,hj,he⟩:=List.getElem_of_mem (List.mem_of_find?_eq_some d);obtain⟨_,_,_,_,_,_,⟨_,l⟩,_⟩:=aH.at bP i hj qe;rw[he] at l;exact l.2
theorem YP(s:Sto)(o:Op):0<=dR s o/\dR s o<=100:=by
 unfold dR iF iQ
 repeat' split
 all_goals exact⟨qe,qe⟩
theorem Lm(g:List Gv)(p:Po):0<=(iE g p).2/\(iE g p).2<=1:=by
 unfold iE rJ
 repeat' split
 all_goals first|exact⟨qe,qe⟩|exact⟨Int.le_refl _,by show (0:Int)<=1;decide⟩
theorem qT{n:Int}(h0:0<=n)(h1:n<=1000000):bK n:=by unfold bK;omega
theorem WI:bK 0:=qT (Int.le_refl _) qe
theorem Vu{c:Prop}[Decidable c]{x y:Sto×Rpl×Option Deci×Int}(a:NG x.2.1)(b:NG y.2.1):NG (if c then x else y).2.1:=by
 split
 .exact a
 .exact b
theorem NH{e q:Int}(he:bK e)(a:bK q):NG {qL with err:=e,at_:=q}:=⟨⟨Nat.zero_le _,Nat.zero_le _⟩,xJ,he,a⟩
theorem Qp{w:World}{ok:nP}{s:Sto}{vc vr vn vo vt vu vk vb:Value}(h:eY w ok s vc vr vn vo vt vu vk vb)(o:Op)(g:o.text.size<=1000000):NG (dE s o).2.1:=by
 have i:=YP s o;have hp:=WH o.text g;have j:=Lm (pT s o) s.aCE;have h1:bK (nD s o).1/\bK (nD s o).2:=by
  unfold nD;split
  .exact⟨qT hp.1.1 qo,qT hp.2.1 hp.2.2⟩
  .exact⟨qT i.1 qo,WI⟩
 by_cases a:(nD s o).1≠0
 .rw[AP a];exact NH h1.1 h1.2
 .have b:(nD s o).1=0:=by simpa using a
  by_cases d:(iE (pT s o) s.aCE).2≠0
  .rw[LK b d];exact NH (qT j.1 qo) h1.2
  .rw[LL b rfl (by simpa using d) rfl rfl rfl rfl rfl];refine Vu (NH (e:=6) (qT qe qe) h1.2) ?_
   .refine⟨(vB _ _).1,?_,?_,WI⟩
    .unfold nW;dsimp only;split
     .rcases f:eR s o.aCK with _|c
      .exact xJ
      .exact Ev h f o.aCY
     .exact xJ
    .unfold nW;dsimp only;split
     .exact WI
     .exact qT qe qe
theorem Sx{p:Prop}(h:p:=by
 injection ho with ho;rw[<-ho];show b.text.size<=_;omega):p:=h
theorem Vv{l:lU}{o:Op}(h:kU l=some o):o.text.size<=l.length:=by
 rw[Am] at h;have h1:=(sE l).2;have h2:=(An (cN l).2).2;have h3:=(sE (jU (cN l).2).2.2).2;generalize (cN (jU (cN l).2).2.2).2=a at *;generalize oG (cN (jU (cN l).2).2.2).1=k at *;generalize e:Sv k (cN l).1 (jU (cN l).2).2.1 (jU (cN l).2).1=b at *;have g:b.text.size=0:=by rw[<-e];rfl
 have f:∀o,AQ k b a=some o->o.text.size<=l.length:=by
  intro o ho;unfold AQ at ho;split at ho
  .exact Sx
  split at ho
  .exact Sx
  split at ho
  .rcases d:oQ (cN (cN a).2).2 with _|v
   .rw[d] at ho;cases ho
   .rw[d] at ho;injection ho with ho;rw[<-ho];show b.text.size<=_;omega
  split at ho
  .exact Sx
  split at ho
  .exact Sx
  split at ho
  .injection ho with ho;rw[<-ho];show (bs a).size<=_;rw[cG];omega
  .injection ho with ho;rw[<-ho];omega
 rcases c:AQ k b a with _|x
 .rw[c] at h;cases h
 .rw[c] at h;unfold vD at h;dsimp only at h;split at h
  .injection h with h;rw[<-h];exact f x c
  .cases h
theorem sC.more{w:World}{E D:Nat}{M K:nP}{Q m n b:Nat}{s:Sto}(h:sC w E D M K Q m n s)(a:n<=b):sC w E D M K Q m b s:=by
 obtain⟨J,base,vc,vr,vn,vo,vt,vu,vk,vb,la,lc,lu,h,ra,rc,ru,da,dc,bs,sy,H⟩:=h;exact⟨J,base,vc,vr,vn,vo,vt,vu,vk,vb,la,lc,lu,h,ra,rc,ru,da,dc,bs,sy,{H with rows:=⟨lT H.rows.1 a,lT H.rows.2 a⟩}⟩
theorem sC.rep{w:World}{E D:Nat}{M K:nP}{Q m n:Nat}{s:Sto}(h:sC w E D M K Q m n s)(o:Op)(a:o.text.size<=1000000):NG (dE s o).2.1:=by
 obtain⟨J,base,vc,vr,vn,vo,vt,vu,vk,vb,la,lc,lu,h,ra,rc,ru,da,dc,bs,sy,H⟩:=h;exact Qp H.sto o a
theorem uF{w w':World}{B:Nat}{o:Obj}(d:B<=w.heap.size)(c:aN (fun b=>b≠w.heap.size) (w.alloc o) w'):Below B w w':=
 ((aJ (ok:=fun b=>b<B) (aB w o)).trans (c.mono fun b _ e=>by show (_:Nat)≠_;omega)).below (B:=B) (fun k a=>⟨qo,a⟩)
def WJ(E D:Nat)(M K:nP)(Q m n:Nat)(s:Sto)(q:bY)(w:World)(e:Ending)(w':World):Prop:=
 e=.returned (.string (gW s q.data.toList).2)/\∃(c K':nP) (a:Nat),sC w' E D c K' Q a (n+1) (gW s q.data.toList).1/\(∀b,c b->M b\/w.heap.size<=b)/\(∀b,K' b->K b\/w.heap.size<=b)/\aN (fun b=>¬M b) w w'/\m<=a/\a<=m+400+q.size/\(∀o,kU q.data.toList=some o->(dE s o).2.2.2≠0->a=m)/\(kU q.data.toList=none->a=m)
theorem QA{s:Sto}{q:lU}(h:kU q=none):gW s q=(s,St):=by unfold gW;rw[h]
theorem Ln{s:Sto}{q:lU}{o:Op}(h:kU q=some o):gW s q=((dE s o).1,FB (dE s o).2.1):=by unfold gW;rw[h]
theorem WK{M K:nP}(E D Q m n k:Nat)(s:Sto)(q:bY)(N:q.size<=100000)(w:World)(Y:sC w E D M K Q m n s)(I:Gl w)(W:∀b,M b->6<=b)(U:mD k s)(hk:k<=900000)(hn:n<=800000)(Z:m+400+q.size<=Q)(X:Q<=900000):
 Calls prog 9 #[.pointer (some ⟨E,0,none⟩),.string q] w (WJ E D M K Q m n s q w):=by
 obtain⟨S,G,R,d,HQ⟩:=gB (PQ q N w I) Y I (And.intro W (And.intro U (And.intro hk (And.intro hn (And.intro Z X))))) N;obtain⟨F,H⟩:=xE (WJ E D M K Q m n s q w);rw[<-H];have P:=aA H;clear Y I W U hk hn Z X N H;go_enter func9,ntmps9;go_wp2_with fail;refine S.o.mono ?_;rintro e w1 ⟨aa,rfl,a⟩;have p:=aA a;have r:=aA aa;clear a aa;obtain⟨OP,z⟩:=xE (kU q.data.toList);rw[<-z] at r;rw[<-z];have f:=aA z;clear z S
 rcases OP with _|o
 .have i:=aA (QA (s:=s) f.o.symm);have ad:=f;clear r;unfold eT bW;dsimp only[Option.isSome,Option.getD];go_upto_region 2 with (refine fA rfl _ (.tmp 5) (.tmp 10) rfl w1.heap.size _ rfl rfl _ _ (aK _ _ _ rfl) (by kernel_rfl) rfl (by simp[Value.oneCell']) ?_;intro w2 v j)
  have c:=qB p (uF (lR _) j.o);clear v j p;go_wp2;have C:=P.o;subst C;refine⟨by rw[i.o];rfl,M,K,m,?_,fun b a=> .inl a,fun b a=> .inl a,(aJ c.o).mono (fun b a _=>a),lR _,qo,fun o L=>absurd (ad.o.trans L) qs,fun _=>rfl⟩;rw[i.o];exact(G.o.on c.o).more (Nat.le_succ n)
 .have HG:=aA (r.o o rfl);have i:=aA (Ln (s:=s) f.o.symm);unfold eT bW;dsimp only[Option.isSome,Option.getD];go_upto_region 2 with (refine fA rfl _ (.tmp 5) (.tmp 10) rfl w1.heap.size _ rfl rfl _ _ (aK _ _ _ rfl) (by kernel_rfl) rfl (by simp[Value.oneCell']) ?_;intro w2 v j)
  have c:=qB p (uF (lR _) j.o);clear j p r;obtain⟨⟨b0,b1,b2,b3,b4,b5,b6,b7,b8,b9,af,ag⟩,-⟩:=bL v.o;have zb:=aD v.o;have ab:o.text.size<=q.size:=by have:=Vv f.o.symm;rwa [Array.length_toList] at this
  have T:=aA ab;have g:=Vn E D Q m n k s o HG.o w2 (G.o.on c.o) ((R.o.on c.o).aDC) d.o.2.1 d.o.2.2.1 d.o.2.2.2.1 (qA d.o.2.2.2.2.1) d.o.2.2.2.2.2;unfold eT bW at g;have g:=aA g;clear ab;go_wp2_with fail;refine g.o.mono ?_;rintro e w3 ⟨rfl,M',K',m',V,y,x,l,A,J,B⟩;obtain⟨HE,ae,t⟩:=aY V (And.intro y (And.intro x (And.intro l (And.intro A (And.intro J B))))) (G.o.rep o (qD T.o HQ.o));have HA:=aA (Et (dE s o).2.1 t.o.mark t.o.val t.o.err t.o.at_ w3 ((R.o.on c.o).stay l (fun b a h=>qA (d.o.1 b h))));clear V y x l A J B g b0 b1 b2 b3 b4 b5 b6 b7 b8 b9 af ag zb;go_wp2_with fail;refine HA.o.mono ?_;rintro e w4 ⟨rfl,a⟩;have O:=aA a;clear a;go_wp2;have C:=P.o;subst C;obtain⟨y,x,l,A,J,B⟩:=ae.o;have hz:=c.o.size;refine⟨by rw[i.o];rfl,M',K',m',?_,fun b a=>(y b a).imp id (fun h=>by omega),fun b a=>(x b a).imp id (fun h=>by omega),?_,A,qA T.o,fun o' L ah=> ?_,fun ai=>absurd (f.o.trans ai) qs⟩
  .rw[i.o];exact HE.o.on O.o
  .exact((aJ c.o).mono (fun b a _=>a)).trans (l.trans ((aJ O.o).mono (fun b a _=>a)))
  .have h1:=f.o.trans L;injection h1 with h1;subst h1;exact B ah
theorem Ew(w:World):Calls prog 59 #[(Value.slice none 0 0)] w fun e w'=>e=.returned (Value.slice none 0 0)/\w'=w:=by
 have heq:=Lib.run_eql_slice_nil (P:=prog) w 63 5 none 0 0 0 0 underlying63;go_enter func59,ntmps59;go_wp2;go_ret;exact⟨rfl,rfl⟩
theorem Ex(w:World):Calls prog 88 #[(Value.slice none 0 0)] w fun e w'=>e=.returned (.tuple #[(Value.slice none 0 0),.bool false])/\w'=w:=by
 go_enter func88,ntmps88;go_wp2;go_ret2
 exact⟨rfl,rfl⟩
theorem Qq(w:World):Calls prog 54 #[(Value.slice none 0 0)] w fun e w'=>e=.returned (.tuple #[(Value.slice none 0 0),.int .i64 0])/\w'=w:=by
 have a:=aA (Ex w);go_enter func54,ntmps54;go_wp2;go_loopw [4,5] (fun v i wr=>v=(Value.slice none 0 0)/\i=.int .i64 0/\wr=w) (fun _ _ _=>0)
 case atStart=>exact⟨rfl,rfl,rfl⟩
 case round=>
  obtain⟨rfl,rfl,rfl⟩:=hrel;go_wp2_with fail;refine a.o.mono ?_;rintro e w1 ⟨rfl,rfl⟩;go_wp2;go_ret2
  exact⟨rfl,rfl⟩
theorem YQ(Q:Nat)(a:Q<=1000000)(w:World):Calls prog 12 #[.int .i64 Q] w fun e w'=>e=.returned (.tuple #[.pointer (some ⟨w.heap.size,0,none⟩),.int .i64 0])/\w'=w.alloc (oT Q none 0 0 0):=by
 have d1:¬((Q:Int)<0):=qo;have d2:¬((1048576:Int)<(Q:Int)):=qo;go_enter func12,ntmps12;go_wp2;go_ret2
 exact⟨rfl,rfl⟩
theorem Lo(D Q:Nat)(sy:Int)(w:World)(h:w.heap[D]? =some (oT Q none 0 0 sy)):Calls prog 55 #[.pointer (some ⟨D,0,none⟩)] w fun e w'=>e=.returned (Value.slice none 0 0)/\w'=w:=by
 obtain⟨⟨d0,d1,d2,d3,d4⟩,_⟩:=dL h;have b:=aD h;have a:=aA (Ew w);clear h;go_enter func55,ntmps55;go_wp2_with fail;refine a.o.mono ?_;rintro e w1 ⟨rfl,rfl⟩;go_wp2;go_ret;exact⟨rfl,rfl⟩
theorem WL(D Q m b:Nat)(a:oD)(sy:Int)(w:World)(h:w.heap[D]? =some (oT Q a m b sy)):Calls prog 7 #[.pointer (some ⟨D,0,none⟩)] w fun e w'=>e=.returned (.int .i64 m)/\w'=w:=by
 obtain⟨⟨d0,d1,d2,d3,d4⟩,_⟩:=dL h;have c:=aD h;clear h;go_enter func7,ntmps7;go_wp2;go_ret;exact⟨rfl,rfl⟩
theorem Lp(D Q:Nat)(w:World)(h:w.heap[D]? =some (oT Q none 0 0 0)):Calls prog 26 #[.pointer (some ⟨D,0,none⟩)] w fun e w'=>∃J,w.heap.size<=J/\e=.returned (.tuple #[.pointer (some ⟨J,0,none⟩),.int .i64 0])/\w'.heap[J]? =some (DE D (Value.slice none 0 0))/\w'.heap[D]? =some (oT Q none 0 0 0)/\J<w'.heap.size/\aN (fun b=>b≠D) w w':=by
 obtain⟨c,a,d,g⟩:=dC (Lo D Q 0 w h) (WL D Q 0 0 none 0 w h) (Qq w) (NZ D Q 0 0 none 0 w h);have j:=aD h;have l:=aA j;clear h j;go_enter func26,ntmps26;go_wp2_with fail;refine c.o.mono ?_;rintro e w1 ⟨rfl,rfl⟩;go_wp2_with fail;refine d.o.mono ?_;rintro e w1 ⟨rfl,rfl⟩;go_wp2_with fail;refine a.o.mono ?_;rintro e w1 ⟨rfl,rfl⟩;go_wp2_with fail;refine g.o.mono ?_;rintro e w2 ⟨rfl,h2,i⟩;have k:=aA h2;have f:=aA i;clear h2 i c a d g;go_wp2;go_ret2
 have m:=f.o.size;have n:=l.o;exact⟨w2.heap.size,m,rfl,aK _ _ _ rfl,aE k.o (aB _ _),qs,f.o.trans (aJ (aB w2 _))⟩
theorem Lq(J D:Nat)(w:World)(h:w.heap[J]? =some (DE D (Value.slice none 0 0))):Calls prog 28 #[.pointer (some ⟨J,0,none⟩)] w fun e w'=>e=.returned (Value.slice none 0 0)/\w'=w:=by
 obtain⟨⟨d0,d1,d2⟩,_⟩:=cE h;have a:=aD h;clear h;go_enter func28,ntmps28;go_wp2;go_loopw [3,11] (fun v i wr=>v=(Value.slice none 0 0)/\i=.int .i64 0/\wr=w) (fun _ _ _=>0)
 case atStart=>exact⟨rfl,rfl,rfl⟩
 case round=>
  obtain⟨rfl,rfl,rfl⟩:=hrel;go_wp2;go_ret;exact⟨rfl,rfl⟩
theorem Lr:wP=⟨#[112,111,108,105,99,121,32,111,112,101,110,32,112,101,114,109,105,116,117,110,108,101,115,115,32,123,32,125]⟩:=by kernel_rfl
def NI(w:World)(e:Ending)(w':World):Prop:=∃vc vr vn vo vt vu vk vb,e=.returned (.agg (aV mN vc vr vn vo vt vu vk vb))/\eY w' (fun b=>w.heap.size<=b) mN vc vr vn vo vt vu vk vb/\Below w.heap.size w w'
theorem Vw(w:World)(p:gU w):Calls prog 27 #[] w (NI w):=by
 obtain⟨W0,f⟩:=xE (w.alloc DT);have g:Below w.heap.size w W0:=by rw[f];exact aB _ _
 have R:Hid (W0.heap[w.heap.size]? =some DT):=aA (by rw[f];exact aK _ _ _ rfl);have c:=rX wP W0 (p.on g);unfold uZ at c;obtain⟨P,i⟩:=xE (fD wP);rw[<-i] at c;rw[Lr] at c;have t:Hid (mN=⟨0,[],[],[],[],P.1,0⟩):=aA (by rw[i];rfl);obtain⟨c,r,o⟩:=aY c g f;clear g f i p;unfold NI;rw[t.o];go_enter func27,ntmps27;go_upto_region 1 with (fail)
 rw[<-o.o];go_wp2_with fail;refine c.o.mono ?_;rintro e w1 ⟨v,rfl,⟨vt,vr,vk,vo,rfl,hp⟩,a⟩;obtain⟨G,H,rfl,-⟩:=hp.2.2.1.slice;obtain⟨ra,rc,rfl,-⟩:=hp.2.2.2.1.slice;obtain⟨C,D,rfl,-⟩:=hp.2.2.2.2.1.slice;obtain⟨E,F,rfl,-⟩:=hp.2.2.2.2.2.slice;obtain⟨z,s,j⟩:=aY hp a (aE R.o a);clear hp a;go_upto_region 2 with (refine fA rfl _ (.tmp 1) (.tmp 6) rfl w1.heap.size _ rfl rfl _ _ (aK _ _ _ rfl) (by kernel_rfl) rfl (by simp[Value.oneCell']) ?_;intro w2 l m)
 have d:=aA (uF (lR _) m.o);have I:=aA (aD j.o);have A:=aA (z.o.aCM (aJ d.o));have x:=qK j d.o;obtain⟨⟨T,U,V,W,X,p5,p6⟩,-⟩:=bI l.o;have Z:=aD l.o;clear m;go_wp2_with (refine fA rfl _ (.tmp 0) (.tmp 10) rfl w.heap.size _ rfl rfl _ _ x.o (by kernel_rfl) rfl (by simp[Value.oneCell']) ?_;intro Y y n)
 obtain⟨⟨a0,J,a2,a3,a4,a5,M,N,O,a9,K,L,a12⟩,-⟩:=bT y.o;refine bR (.agg #[.int .i64 0,.slice none 0 0,.slice none 0 0,.slice none 0 0,.slice none 0 0,.string P.1.id,.bool P.1.set,.int .i64 P.1.alg,.slice G P.1.aCO.length H,.slice ra P.1.aCH.length rc,.slice C P.1.aCS.length D,.slice E P.1.aCU.length F,.int .i64 0]) ?_;have Q:w.heap.size<W0.heap.size:=by rw[o.o];simp
 have S:=d.o.size;exact⟨_,_,_,_,_,_,_,_,rfl,⟨WI,WI,aH.nil,aH.nil,aH.nil,aH.nil,(A.o.aCM (n.o.mono (fun b _ a=>by have:W0.heap.size<=b:=a;show b≠w.heap.size;omega))).more (fun b a=>by have:W0.heap.size<=b:=a;omega),II,II,II⟩,((aJ (ok:=fun b=>b<w.heap.size) (aC r.o (aC s.o d.o))).trans (n.o.mono (fun b _ a=>by have:b<w.heap.size:=a;show b≠w.heap.size;omega))).below (B:=w.heap.size) (fun k q=>⟨q,q⟩)⟩
theorem gU.far{w w':World}{D:Nat}(h:gU w)(a:aN (fun b=>b≠D) w w')(c:6<=D):gU w':=h.stay a (by show 2≠D;omega)
def QB(D Q:Nat)(w:World)(e:Ending)(w':World):Prop:=∃(E J:Nat) (K:nP),e=.returned (.tuple #[.pointer (some ⟨E,0,none⟩),.int .i64 0])/\sC w' E D (fun b=>b=E\/b=J\/b=D) K Q 0 0 mN/\w.heap.size<=E/\w.heap.size<=J/\(∀b,K b->w.heap.size<=b)/\aN (fun b=>b≠D) w w'
theorem Ls(D Q:Nat)(w:World)(h:w.heap[D]? =some (oT Q none 0 0 0))(k:gU w)(p:6<=D):Calls prog 13 #[.pointer (some ⟨D,0,none⟩)] w (QB D Q w):=by
 obtain⟨o,z,A,y⟩:=dC (Lp D Q w h) (aD h) k p;obtain⟨S,s⟩:=xE mN;have g:=aA (fun w1 (k:gU w1)=>Vw w1 k);unfold NI at g;unfold QB;rw[<-s] at g ⊢;clear h k p s;go_enter func13,ntmps13;go_wp2_with fail;refine o.o.mono ?_;rintro e w1 ⟨J,q,rfl,hj,t,r,m⟩;have n:=aA (g.o w1 (A.o.far m y.o));have H1:=aA (And.intro q (And.intro hj (And.intro t (And.intro r m))));clear q hj t r m o g;go_wp2_with fail;refine n.o.mono ?_;rintro e w2 ⟨vc,vr,vn,vo,vt,vu,vk,vb,rfl,x,a⟩;have B:=aA x;have f:=aA a;have c:=Lq J D (w2.alloc (oX J S vc vr vn vo vt vu vk vb (.slice none 0 0) 0)) (aE (aE H1.o.2.1 a) (aB _ _));have v:n64 0=0:=rfl;unfold oX at c;rw[v] at c;have c:=aA c;unfold aV;clear x a n v;go_wp2_with fail;refine c.o.mono ?_;rintro e L ⟨rfl,rfl⟩;clear c;obtain⟨E,d⟩:=xE (w2.alloc (oX J S vc vr vn vo vt vu vk vb (.slice none 0 0) 0));have l:=aA d;unfold oX at d;rw[show n64 0=0 from rfl] at d;rw[<-d];clear d;go_wp2;go_loopw [30] (fun i wr=>i=.int .i64 0/\wr=E) (fun _ _=>0)
 case atStart=>exact⟨rfl,rfl⟩
 case round=>
  obtain⟨rfl,rfl⟩:=hrel;go_wp2;go_ret2
  have j:Below w2.heap.size w2 wr:=by rw[l.o];exact aB _ _
  have K:wr.heap.size=w2.heap.size+1:=by rw[l.o];simp
  have H:=H1.o.2.2.2.2.size;have I:=f.o.size;have G:=z.o;have C:=H1.o.1;have F:=H1.o.2.2.2.1;refine⟨w2.heap.size,J,(fun b=>w1.heap.size<=b/\b<w2.heap.size),rfl,⟨J,wr.heap.size,vc,vr,vn,vo,vt,vu,vk,vb,none,0,[],0,none,0,[],none,0,[],0,?_⟩,qo,C,fun b a=>by omega,(H1.o.2.2.2.2.trans (aJ f.o)).trans (aJ j)⟩;exact {
   eng:=by rw[l.o];exact aK _ _ _ rfl
   jou:=aE (aE H1.o.2.1 f.o) j
   dsk:=aE (aE H1.o.2.2.1 f.o) j
   sto:=B.o.inb.aCM (aJ j)
   log:=aM.nil
   aDy:=aM.nil
   byt:=iY.nil
   len:=rfl
   lts:=⟨qo,qo,qo,lR _⟩
   nes:=⟨qo,qo,qo⟩
   mem:=⟨.inl rfl,.inr (.inl rfl),.inr (.inr rfl)⟩
   aDr:=fun b a=>by simp[Value.ownBlock] at a
   aDq:=fun b a=>by simp[Value.ownBlock] at a
   kept:=fun b a=>⟨fun h=>by rcases h with h|h|h<;>omega,qo⟩
   low:=fun b a=>by rcases a with h|h|h<;>omega
   rows:=⟨lR _,lR _⟩}
def QC(Q:Nat)(w:World)(e:Ending)(w':World):Prop:=∃(E D:Nat) (M K:nP),e=.returned (.tuple #[.pointer (some ⟨E,0,none⟩),.pointer (some ⟨D,0,none⟩)])/\sC w' E D M K Q 0 0 mN/\(∀b,M b->w.heap.size<=b)/\(∀b,K b->w.heap.size<=b)/\Below w.heap.size w w'
theorem Lt(Q:Nat)(t:Q<=1000000)(w:World)(o:Gl w)(h6:6<=w.heap.size):Calls prog 4 #[.int .i64 Q] w (QC Q w):=by
 have i:=aA (YQ Q t w);obtain⟨W0,c⟩:=xE (w.alloc (oT Q none 0 0 0));have j:Below w.heap.size w W0:=by rw[c];exact aB _ _
 have n:=aA (Ls w.heap.size Q W0 (by rw[c];exact aK _ _ _ rfl) (o.on j).aDC h6);have s:Hid (W0.heap.size=w.heap.size+1):=aA (by rw[c];simp);have q:=aA j;rw[<-c] at i;clear j c o h6;unfold QC;go_enter func4,ntmps4;go_wp2_with fail;refine i.o.mono ?_;rintro e w1 ⟨rfl,rfl⟩;go_wp2_with fail;refine n.o.mono ?_;rintro e w2 ⟨E,J,K,rfl,d,l,m,f,g⟩;have r:=aA (And.intro d (And.intro l (And.intro m (And.intro f g))));clear d l m f g n i;go_wp2;go_ret2
 obtain⟨d,l,m,f,g⟩:=r.o;have v:=s.o;exact⟨E,w.heap.size,_,K,rfl,d,fun b a=>by rcases a with h|h|h<;>omega,fun b a=>qA (f b a),((aJ (ok:=fun b=>b<w.heap.size) q.o).trans (g.mono (fun b _ a=>by have:b<w.heap.size:=a;show b≠w.heap.size;omega))).below (B:=w.heap.size) (fun k p=>⟨p,p⟩)⟩
end Go.Proofs.YtlfngkelmbdehaaGreatDoor
