/- Lemmas. -/
import Derived.Test.YtbinmcabjnoliaaGreatDoorMba
namespace Go.Proofs.YtbinmcabjnoliaaGreatDoor
open Go.RowKit
set_option linter.unusedVariables false
set_option linter.unusedSimpArgs false
set_option maxHeartbeats 16000000
open _root_.Go.Proofs.Tryz
set_option maxRecDepth 20000
theorem QCw{p:Prop}(h:p:=by
 exact((((((((HP.o.set qo).set qo).set qo).set qo).set qo).set qo).set qo).set qo)):p:=h
theorem QCn{p:Prop}(h:p:=by
 exact cX.end (((((((((HK.o.set qo).set qo).set qo).set qo).set qo).set qo).set qo).set qo))):p:=h
theorem QAQ{p:Prop}(h:p:=by
 exact aH.more aP (aH.set aP (aH.set aP (aH.set aP (aH.set aP (aH.set aP (aH.set aP (aH.set aP (aH.set aP (HSo.o) qh) qh) qh) qh) qh) qh) qh) qh) (fun b hb=>by have:=hb.1;show w.heap.size<=b;omega)):p:=h
theorem QAP{p:Prop}(h:p:=by
 exact aH.more aS (aH.set aS (aH.set aS (aH.set aS (aH.set aS (aH.set aS (aH.set aS (aH.set aS (aH.set aS (HSt.o) qh) qh) qh) qh) qh) qh) qh) qh) (fun b hb=>by have:=hb.1;show w.heap.size<=b;omega)):p:=h
def vC(L:List Tok):Nat->PS->List Po×PS
 |0,p=>gM L (fun q=>(mA,q)) true L.length [] p
 |n+1,p=>gM L (cO L n) false L.length [] p
theorem Dq(L:List Tok)(n:Nat)(p:PS)(h:(aZ L [str "policy",str "set"] p).1=2):cO L n p=
 (.mk (bU L (aZ L [str "policy",str "set"] p).2).1 true (aZ L dH (bU L (aZ L [str "policy",str "set"] p).2).2).1 (bV L (aZ L dH (bU L (aZ L [str "policy",str "set"] p).2).2).2).1 [] (vC L n (eH L qX (bV L (aZ L dH (bU L (aZ L [str "policy",str "set"] p).2).2).2).2)).1 (gL L (eH L yE (vC L n (eH L qX (bV L (aZ L dH (bU L (aZ L [str "policy",str "set"] p).2).2).2).2)).2)).1,
  (gL L (eH L yE (vC L n (eH L qX (bV L (aZ L dH (bU L (aZ L [str "policy",str "set"] p).2).2).2).2)).2)).2):=by
 cases n with
 |zero=>
  unfold cO vC;dsimp only;rw[dX h,iP rfl]
 |succ n=>
  unfold cO vC;dsimp only;rw[dX h,iP rfl]
theorem UW(L:List Tok)(n:Nat)(p:PS)(h:(aZ L [str "policy",str "set"] p).1≠2):cO L n p=
 (.mk (bU L (aZ L [str "policy",str "set"] p).2).1 false (aZ L dH (bU L (aZ L [str "policy",str "set"] p).2).2).1 (bV L (aZ L dH (bU L (aZ L [str "policy",str "set"] p).2).2).2).1 (iJ L L.length [] (eH L qX (bV L (aZ L dH (bU L (aZ L [str "policy",str "set"] p).2).2).2).2)).1 [] (gL L (eH L yE (iJ L L.length [] (eH L qX (bV L (aZ L dH (bU L (aZ L [str "policy",str "set"] p).2).2).2).2)).2)).1,
  (gL L (eH L yE (iJ L L.length [] (eH L qX (bV L (aZ L dH (bU L (aZ L [str "policy",str "set"] p).2).2).2).2)).2)).2):=by
 cases n with
 |zero=>
  unfold cO;dsimp only;rw[dF h,iN qe]
 |succ n=>
  unfold cO;dsimp only;rw[dF h,iN qe]
theorem Jc{L:List Tok}(T:Toks L)(n:Nat){p:PS}(h:p.at_<L.length):dK L p (vC L n p).2:=by
 cases n with
 |zero=>exact qP (one:=fun q=>(mA,q)) (fun h=>dK.refl h) true L.length [] h
 |succ n=>exact qP (one:=cO L n) (rP T n) false L.length [] h
def Pg(L:List Tok)(n:Nat):Prop:=∀(d:Int),d=5 - (n:Int)->∀p g w,p.at_<L.length->p.aCT<=64->PW L w g p->
 Calls prog 139 #[.pointer (some ⟨g,0,none⟩),.int .i64 d] w (iK (pY n) L g w (vC L n p).1 (vC L n p).2)
abbrev alW:Array Value:=#[.string ⟨#[100,101,110,121,111,118,101,114]⟩,.string ⟨#[112,101,114,109,105,116,111,118,101,114]⟩,.string ⟨#[102,105,114,115,116]⟩,.string ⟨#[111,110,108,121]⟩,.string ⟨#[100,101,110,121,117,110,108,101,115,115]⟩,.string ⟨#[112,101,114,109,105,116,117,110,108,101,115,115]⟩]
theorem GI{L:List Tok}{n:Nat}(hn:n<=3)(T:Toks L)(S:Pg L n){p:PS}(d:Int)(hd:d=4 - (n:Int))(hp:p.at_<L.length)(af:p.aCT<=64)(g:Nat)(w:World)(h:PW L w g p)(Q:(aZ L [str "policy",str "set"] p).1=2):
 Calls prog 81 #[.pointer (some ⟨g,0,none⟩),.int .i64 d] w (wJ n L g w (cO L n p).1 (cO L n p).2):=by
 have hL:=T.len;have aq:=h.lt;have HP:=aA h;have m1:=dQ T [str "policy",str "set"] hp;have m2:=jD T m1.lt;have m3:=dQ T dH m2.lt;have m4:=lQ T m3.lt;have m5:=fZ T qX m4.lt;have m15:=m1.trans (m2.trans (m3.trans (m4.trans m5)));have U:=m15.aDC af;have m6:=Jc T n m5.lt;have m7:=fZ T yE m6.lt;have I:=aA (fun a c w h hw=>nB T [str "policy",str "set"] a c 2 rfl qe hp g w h hw);have R:=aA (fun w h=>rB T m1.lt g w h);have J:=aA (fun a c w h hw=>nB T dH a c 6 rfl qe m2.lt g w h hw);have P:=aA (fun w h=>tM T m3.lt g w h);have O:=aA (fun w h=>mE T qX m4.lt g w h);have K:=aA (fun w h=>S (d+1) qo (eH L qX (bV L (aZ L dH (bU L (aZ L [str "policy",str "set"] p).2).2).2).2) g w m5.lt U h);have N:=aA (fun w h=>mE T yE m6.lt g w h);have M:=aA (fun w h=>uZ T m7.lt g w h);have ab:=aA (rF T m1.lt);have aa:=aA (nM (L:=L) dH (bU L (aZ L [str "policy",str "set"] p).2).2);have d1:1<=d:=qo;have d2:d<=4:=qo;rw[Dq L n p Q];unfold wJ;unfold iK at P M K;clear h m1 m2 m3 m4 m5 m6 m7 m15 U S hd;generalize aZ L [str "policy",str "set"] p=V at *;generalize bU L V.2=W at *;generalize aZ L dH W.2=H at *;generalize bV L H.2=X at *;generalize eH L qX X.2=p5 at *;generalize vC L n p5=Y at *;generalize eH L yE Y.2=p7 at *;generalize gL L p7=r8 at *;rw[vT,JS] at I;rw[show dH=[⟨#[100,101,110,121,111,118,101,114]⟩,⟨#[112,101,114,109,105,116,111,118,101,114]⟩,⟨#[102,105,114,115,116]⟩,⟨#[111,110,108,121]⟩,⟨#[100,101,110,121,117,110,108,101,115,115]⟩,⟨#[112,101,114,109,105,116,117,110,108,101,115,115]⟩] from by kernel_rfl] at J
 rw[SQ] at O;rw[SR] at N;have ao:(V.1==2)=true:=bQ.2 Q;clear Q;dsimp only;go_enter func81,ntmps81;have HK:=aA (cX.refl w.heap.size g w);go_wp2_with fail;refine(I.o _ _ _ (HP.o.alloc.alloc.alloc) (nC _ _ _ _ _ qs rfl)).mono ?_;rintro e w1 ⟨rfl,k,f⟩;obtain⟨j,i,l,HK,HP⟩:=gC (aF (aE (aE (aK _ _ _ qs) (aB _ _)) (aB _ _)) f qo:w1.heap[w.heap.size]? =some (.cells vZ 38 (0,0))) (aF (aE (aK _ _ _ qs) (aB _ _)) f qo:w1.heap[w.heap.size+1]? =some (.cells vZ 38 (0,0))) (aF (aK _ _ _ qs) f qo:w1.heap[w.heap.size+2]? =some (.cells #[.string ⟨#[112,111,108,105,99,121]⟩,.string ⟨#[115,101,116]⟩] 9 (0,0))) (HK.o.alloc.alloc.alloc.aC8 f) k;clear k f;have bf:=aD j.o;have bp:=aD i.o;have ar:=aD l.o;have bz:=HP.o.lt;clear I;obtain⟨⟨o,q,r,s,t,v,x⟩,y,z,A,B,C,D,E⟩:=bJ i.o;go_wp2_with fail;refine(R.o _ ((HP.o.set qo))).mono ?_;rintro e w2 ⟨rfl,k,f⟩;obtain⟨j,i,l,HK,HP⟩:=gC (aF (bE (j.o) qo) f qo) (aF (Rq (i.o) _) f qo) (aF (bE (l.o) qo) f qo) ((HK.o.set qo).aC8 f) k;clear k f o q r s t v x y z A B C D E;have bg:=aD j.o;have bq:=aD i.o;have au:=aD l.o;have b0:=HP.o.lt;clear R;obtain⟨⟨o,q,r,s,t,v,x⟩,y,z,A,B,C,D,E⟩:=bJ i.o;go_wp2_with fail;refine(J.o _ _ _ ((HP.o.set qo).alloc) (nC _ _ _ _ _ qs rfl)).mono ?_;rintro e w3 ⟨rfl,k,f⟩;obtain⟨j,i,l,m,HK,HP⟩:=hD6 (aF (aE (bE (j.o) qo) (aB _ _)) f qo) (aF (aE (Rp (i.o) _) (aB _ _)) f qo) (aF (aE (bE (l.o) qo) (aB _ _)) f qo) (aF (aK _ _ _ qs) f qo:w3.heap[w2.heap.size]? =some (.cells alW 9 (0,0))) ((HK.o.set qo).alloc.aC8 f) k;clear k f o q r s t v x y z A B C D E
 have bh:=aD j.o;have br:=aD i.o;have av:=aD l.o;have a6:=aD m.o;have b1:=HP.o.lt;clear J;obtain⟨⟨o,q,r,s,t,v,x⟩,y,z,A,B,C,D,E⟩:=bJ i.o;go_wp2_with fail;refine(P.o _ ((HP.o.set qo))).mono ?_;rintro e w4 ⟨Z,rfl,F,k,f⟩;obtain⟨ta,tc,rfl,tl⟩:=F.slice;obtain⟨j,i,l,m,HK,HP⟩:=hD6 (aF (bE (j.o) qo) f qo) (aF (Rr (i.o) _) f qo) (aF (bE (l.o) qo) f qo) (aF (bE (m.o) qo) f qo) ((HK.o.set qo).aC8 f) k;clear k f o q r s t v x y z A B C D E;have bj:=aD j.o;have bs:=aD i.o;have aw:=aD l.o;have a7:=aD m.o;have b2:=HP.o.lt;have HSt:=aA (aH.more aS (aH.inb aS F) (ok':=fun b=>w.heap.size<b/\b≠w.heap.size+1) (fun b hb=>by have h1:=hb.1;(try simp only[World.setCell,Array.size_modify] at h1);have h3:w3.heap.size<=b:=h1;exact⟨by show w.heap.size<b;omega,by show b≠w.heap.size+1;omega⟩));clear F;clear P;obtain⟨⟨o,q,r,s,t,v,x⟩,y,z,A,B,C,D,E⟩:=bJ i.o;go_wp2_with fail;refine(O.o _ ((HP.o.set qo))).mono ?_;rintro e w5 ⟨rfl,k,f⟩;obtain⟨j,i,l,m,HK,HP⟩:=hD6 (aF (bE (j.o) qo) f qo) (aF (JU (i.o) _) f qo) (aF (bE (l.o) qo) f qo) (aF (bE (m.o) qo) f qo) ((HK.o.set qo).aC8 f) k;have HSt:=aA (aH.aC8 aS (aH.set aS (HSt.o) qh) f qh);clear k f o q r s t v x y z A B C D E;have bk:=aD j.o;have bt:=aD i.o;have ax:=aD l.o;have a8:=aD m.o;have b3:=HP.o.lt;clear O;obtain⟨⟨o,q,r,s,t,v,x⟩,y,z,A,B,C,D,E⟩:=bJ i.o;go_wp2_with fail;refine(K.o _ (HP.o)).mono ?_;rintro e w6 ⟨Z,rfl,F,k,f⟩;obtain⟨ba,bc,rfl,bl⟩:=F.slice;obtain⟨j,i,l,m,HK,HP⟩:=hD6 (aF (j.o) f qo) (aF (i.o) f qo) (aF (l.o) f qo) (aF (m.o) f qo) (HK.o.aC8 f) k
 have HSt:=aA (aH.aC8 aS (HSt.o) f qh);clear k f o q r s t v x y z A B C D E;have bm:=aD j.o;have bu:=aD i.o;have ay:=aD l.o;have bb:=aD m.o;have b4:=HP.o.lt;have G:=aA (aH.more (bB n) (aH.inb (bB n) F) (ok':=fun b=>w.heap.size<b/\b≠w.heap.size+1) (fun b hb=>by have h1:=hb.1;(try simp only[World.setCell,Array.size_modify] at h1);have h3:w5.heap.size<=b:=h1;exact⟨by show w.heap.size<b;omega,by show b≠w.heap.size+1;omega⟩));clear F;clear K;obtain⟨⟨o,q,r,s,t,v,x⟩,y,z,A,B,C,D,E⟩:=bJ i.o;go_wp2_with fail;refine(N.o _ ((HP.o.set qo))).mono ?_;rintro e w7 ⟨rfl,k,f⟩;obtain⟨j,i,l,m,HK,HP⟩:=hD6 (aF (bE (j.o) qo) f qo) (aF (Zx (i.o) _) f qo) (aF (bE (l.o) qo) f qo) (aF (bE (m.o) qo) f qo) ((HK.o.set qo).aC8 f) k;have HSt:=aA (aH.aC8 aS (aH.set aS (HSt.o) qh) f qh);have G:=aA (aH.aC8 (bB n) (aH.set (bB n) (G.o) qh) f qh);clear k f o q r s t v x y z A B C D E;have bn:=aD j.o;have bw:=aD i.o;have az:=aD l.o;have bd:=aD m.o;have b5:=HP.o.lt;clear N;go_wp2_with fail;refine(M.o _ (HP.o)).mono ?_;rintro e w8 ⟨Z,rfl,F,k,f⟩;obtain⟨oa,oc,rfl,ol⟩:=F.slice;obtain⟨j,i,l,m,HK,HP⟩:=hD6 (aF (j.o) f qo) (aF (i.o) f qo) (aF (l.o) f qo) (aF (m.o) f qo) (HK.o.aC8 f) k;have HSt:=aA (aH.aC8 aS (HSt.o) f qh);have G:=aA (aH.aC8 (bB n) (G.o) f qh)
 clear k f;have bo:=aD j.o;have bx:=aD i.o;have a1:=aD l.o;have be:=aD m.o;have b6:=HP.o.lt;have HSo:=aA (aH.more aP (aH.inb aP F) (ok':=fun b=>w.heap.size<b/\b≠w.heap.size+1) (fun b hb=>by have h1:=hb.1;(try simp only[World.setCell,Array.size_modify] at h1);have h3:w7.heap.size<=b:=h1;exact⟨by show w.heap.size<b;omega,by show b≠w.heap.size+1;omega⟩));clear F;clear M;obtain⟨⟨o,q,r,s,t,v,x⟩,y,z,A,B,C,D,E⟩:=bJ i.o;obtain⟨⟨R0,R1,R2,R3,R4,R5,R6⟩,ag,ah,ai,aj,ak,al,an⟩:=bJ j.o;go_wp2;refine bR (.agg #[.string W.1,.bool true,.int .i64 H.1,.slice ta X.1.length tc,.slice none 0 0,.slice ba Y.1.length bc,.slice oa r8.1.length oc]) ?_;have ae:=aa.o;have ad:dH.length=6:=rfl;rw[ad] at ae;refine⟨_,_,_,_,rfl,⟨lT ab.o (by unfold cQ;omega),by unfold bK;show _<=H.1/\H.1<=_;omega,?_,?_,?_,?_⟩,?_,?_⟩
 .exact QAP
 .exact aH.nil
 .exact aH.more (bB n) (aH.set (bB n) (aH.set (bB n) (aH.set (bB n) (aH.set (bB n) (aH.set (bB n) (aH.set (bB n) (aH.set (bB n) (aH.set (bB n) (G.o) qh) qh) qh) qh) qh) qh) qh) qh) (fun b hb=>by have:=hb.1;show w.heap.size<=b;omega)
 .exact QAQ
 .exact QCw
 .exact QCn
theorem BO{L:List Tok}{n:Nat}(hn:n<=3)(T:Toks L){p:PS}(d:Int)(hd:d=4 - (n:Int))(hp:p.at_<L.length)(af:p.aCT<=64)(g:Nat)(w:World)(h:PW L w g p)(Q:(aZ L [str "policy",str "set"] p).1≠2):
 Calls prog 81 #[.pointer (some ⟨g,0,none⟩),.int .i64 d] w (wJ n L g w (cO L n p).1 (cO L n p).2):=by
 have hL:=T.len;have aq:=h.lt;have HP:=aA h;have m1:=dQ T [str "policy",str "set"] hp;have m2:=jD T m1.lt;have m3:=dQ T dH m2.lt;have m4:=lQ T m3.lt;have m5:=fZ T qX m4.lt;have m15:=m1.trans (m2.trans (m3.trans (m4.trans m5)));have S:=m15.aDC af;have m6:=sS T L.length [] m5.lt;have m7:=fZ T yE m6.lt;have I:=aA (fun a c w h hw=>nB T [str "policy",str "set"] a c 2 rfl qe hp g w h hw);have R:=aA (fun w h=>rB T m1.lt g w h);have J:=aA (fun a c w h hw=>nB T dH a c 6 rfl qe m2.lt g w h hw);have P:=aA (fun w h=>tM T m3.lt g w h);have O:=aA (fun w h=>mE T qX m4.lt g w h);have K:=aA (fun w h=>Pf T m5.lt S g w h);have N:=aA (fun w h=>mE T yE m6.lt g w h);have M:=aA (fun w h=>uZ T m7.lt g w h);have ab:=aA (rF T m1.lt);have aa:=aA (nM (L:=L) dH (bU L (aZ L [str "policy",str "set"] p).2).2);have d1:1<=d:=qo;have d2:d<=4:=qo;rw[UW L n p Q];unfold wJ;unfold iK at P M K;clear h m1 m2 m3 m4 m5 m6 m7 m15 S hd;generalize aZ L [str "policy",str "set"] p=U at *;generalize bU L U.2=V at *;generalize aZ L dH V.2=H at *;generalize bV L H.2=W at *;generalize eH L qX W.2=p5 at *;generalize iJ L L.length [] p5=X at *;generalize eH L yE X.2=p7 at *;generalize gL L p7=r8 at *;rw[vT,JS] at I;rw[show dH=[⟨#[100,101,110,121,111,118,101,114]⟩,⟨#[112,101,114,109,105,116,111,118,101,114]⟩,⟨#[102,105,114,115,116]⟩,⟨#[111,110,108,121]⟩,⟨#[100,101,110,121,117,110,108,101,115,115]⟩,⟨#[112,101,114,109,105,116,117,110,108,101,115,115]⟩] from by kernel_rfl] at J;rw[SQ] at O;rw[SR] at N;have ao:(U.1==2)=false:=bN.2 Q;clear Q
 dsimp only;go_enter func81,ntmps81;have HK:=aA (cX.refl w.heap.size g w);go_wp2_with fail;refine(I.o _ _ _ (HP.o.alloc.alloc.alloc) (nC _ _ _ _ _ qs rfl)).mono ?_;rintro e w1 ⟨rfl,k,f⟩;obtain⟨j,i,l,HK,HP⟩:=gC (aF (aE (aE (aK _ _ _ qs) (aB _ _)) (aB _ _)) f qo:w1.heap[w.heap.size]? =some (.cells vZ 38 (0,0))) (aF (aE (aK _ _ _ qs) (aB _ _)) f qo:w1.heap[w.heap.size+1]? =some (.cells vZ 38 (0,0))) (aF (aK _ _ _ qs) f qo:w1.heap[w.heap.size+2]? =some (.cells #[.string ⟨#[112,111,108,105,99,121]⟩,.string ⟨#[115,101,116]⟩] 9 (0,0))) (HK.o.alloc.alloc.alloc.aC8 f) k;clear k f;have bf:=aD j.o;have bp:=aD i.o;have ar:=aD l.o;have bz:=HP.o.lt;clear I;obtain⟨⟨o,q,r,s,t,v,x⟩,y,z,A,B,C,D,E⟩:=bJ i.o;go_wp2_with fail;refine(R.o _ ((HP.o.set qo))).mono ?_;rintro e w2 ⟨rfl,k,f⟩;obtain⟨j,i,l,HK,HP⟩:=gC (aF (bE (j.o) qo) f qo) (aF (Rq (i.o) _) f qo) (aF (bE (l.o) qo) f qo) ((HK.o.set qo).aC8 f) k;clear k f o q r s t v x y z A B C D E;have bg:=aD j.o;have bq:=aD i.o;have au:=aD l.o;have b0:=HP.o.lt;clear R;obtain⟨⟨o,q,r,s,t,v,x⟩,y,z,A,B,C,D,E⟩:=bJ i.o;go_wp2_with fail;refine(J.o _ _ _ ((HP.o.set qo).alloc) (nC _ _ _ _ _ qs rfl)).mono ?_;rintro e Z ⟨rfl,k,f⟩;obtain⟨j,i,l,m,HK,HP⟩:=hD6 (aF (aE (bE (j.o) qo) (aB _ _)) f qo) (aF (aE (Rp (i.o) _) (aB _ _)) f qo) (aF (aE (bE (l.o) qo) (aB _ _)) f qo) (aF (aK _ _ _ qs) f qo:Z.heap[w2.heap.size]? =some (.cells alW 9 (0,0))) ((HK.o.set qo).alloc.aC8 f) k;clear k f o q r s t v x y z A B C D E;have bh:=aD j.o;have br:=aD i.o;have av:=aD l.o;have a6:=aD m.o
 have b1:=HP.o.lt;clear J;obtain⟨⟨o,q,r,s,t,v,x⟩,y,z,A,B,C,D,E⟩:=bJ i.o;go_wp2_with fail;refine(P.o _ ((HP.o.set qo))).mono ?_;rintro e w4 ⟨Y,rfl,F,k,f⟩;obtain⟨ta,tc,rfl,tl⟩:=F.slice;obtain⟨j,i,l,m,HK,HP⟩:=hD6 (aF (bE (j.o) qo) f qo) (aF (Rr (i.o) _) f qo) (aF (bE (l.o) qo) f qo) (aF (bE (m.o) qo) f qo) ((HK.o.set qo).aC8 f) k;clear k f o q r s t v x y z A B C D E;have bj:=aD j.o;have bs:=aD i.o;have aw:=aD l.o;have a7:=aD m.o;have b2:=HP.o.lt;have HSt:=aA (aH.more aS (aH.inb aS F) (ok':=fun b=>w.heap.size<b/\b≠w.heap.size+1) (fun b hb=>by have h1:=hb.1;(try simp only[World.setCell,Array.size_modify] at h1);have h3:Z.heap.size<=b:=h1;exact⟨by show w.heap.size<b;omega,by show b≠w.heap.size+1;omega⟩));clear F;clear P;obtain⟨⟨o,q,r,s,t,v,x⟩,y,z,A,B,C,D,E⟩:=bJ i.o;go_wp2_with fail;refine(O.o _ ((HP.o.set qo))).mono ?_;rintro e w5 ⟨rfl,k,f⟩;obtain⟨j,i,l,m,HK,HP⟩:=hD6 (aF (bE (j.o) qo) f qo) (aF (JU (i.o) _) f qo) (aF (bE (l.o) qo) f qo) (aF (bE (m.o) qo) f qo) ((HK.o.set qo).aC8 f) k;have HSt:=aA (aH.aC8 aS (aH.set aS (HSt.o) qh) f qh);clear k f o q r s t v x y z A B C D E;have bk:=aD j.o;have bt:=aD i.o;have ax:=aD l.o;have a8:=aD m.o;have b3:=HP.o.lt;clear O;obtain⟨⟨o,q,r,s,t,v,x⟩,y,z,A,B,C,D,E⟩:=bJ i.o;go_wp2_with fail;refine(K.o _ (HP.o)).mono ?_;rintro e w6 ⟨Y,rfl,F,k,f⟩;obtain⟨ba,bc,rfl,bl⟩:=F.slice;obtain⟨j,i,l,m,HK,HP⟩:=hD6 (aF (j.o) f qo) (aF (i.o) f qo) (aF (l.o) f qo) (aF (m.o) f qo) (HK.o.aC8 f) k
 have HSt:=aA (aH.aC8 aS (HSt.o) f qh);clear k f o q r s t v x y z A B C D E;have bm:=aD j.o;have bu:=aD i.o;have ay:=aD l.o;have bb:=aD m.o;have b4:=HP.o.lt;have G:=aA (aH.more bM (aH.inb bM F) (ok':=fun b=>w.heap.size<b/\b≠w.heap.size+1) (fun b hb=>by have h1:=hb.1;(try simp only[World.setCell,Array.size_modify] at h1);have h3:w5.heap.size<=b:=h1;exact⟨by show w.heap.size<b;omega,by show b≠w.heap.size+1;omega⟩));clear F;clear K;obtain⟨⟨o,q,r,s,t,v,x⟩,y,z,A,B,C,D,E⟩:=bJ i.o;go_wp2_with fail;refine(N.o _ ((HP.o.set qo))).mono ?_;rintro e w7 ⟨rfl,k,f⟩;obtain⟨j,i,l,m,HK,HP⟩:=hD6 (aF (bE (j.o) qo) f qo) (aF (Zw (i.o) _) f qo) (aF (bE (l.o) qo) f qo) (aF (bE (m.o) qo) f qo) ((HK.o.set qo).aC8 f) k;have HSt:=aA (aH.aC8 aS (aH.set aS (HSt.o) qh) f qh);have G:=aA (aH.aC8 bM (aH.set bM (G.o) qh) f qh);clear k f o q r s t v x y z A B C D E;have bn:=aD j.o;have bw:=aD i.o;have az:=aD l.o;have bd:=aD m.o;have b5:=HP.o.lt;clear N;go_wp2_with fail;refine(M.o _ (HP.o)).mono ?_;rintro e w8 ⟨Y,rfl,F,k,f⟩;obtain⟨oa,oc,rfl,ol⟩:=F.slice;obtain⟨j,i,l,m,HK,HP⟩:=hD6 (aF (j.o) f qo) (aF (i.o) f qo) (aF (l.o) f qo) (aF (m.o) f qo) (HK.o.aC8 f) k;have HSt:=aA (aH.aC8 aS (HSt.o) f qh);have G:=aA (aH.aC8 bM (G.o) f qh);clear k f
 have bo:=aD j.o;have bx:=aD i.o;have a1:=aD l.o;have be:=aD m.o;have b6:=HP.o.lt;have HSo:=aA (aH.more aP (aH.inb aP F) (ok':=fun b=>w.heap.size<b/\b≠w.heap.size+1) (fun b hb=>by have h1:=hb.1;(try simp only[World.setCell,Array.size_modify] at h1);have h3:w7.heap.size<=b:=h1;exact⟨by show w.heap.size<b;omega,by show b≠w.heap.size+1;omega⟩));clear F;clear M;obtain⟨⟨o,q,r,s,t,v,x⟩,y,z,A,B,C,D,E⟩:=bJ i.o;obtain⟨⟨R0,R1,R2,R3,R4,R5,R6⟩,ag,ah,ai,aj,ak,al,an⟩:=bJ j.o;go_wp2;refine bR (.agg #[.string V.1,.bool false,.int .i64 H.1,.slice ta W.1.length tc,.slice ba X.1.length bc,.slice none 0 0,.slice oa r8.1.length oc]) ?_;have ae:=aa.o;have ad:dH.length=6:=rfl;rw[ad] at ae;refine⟨_,_,_,_,rfl,⟨lT ab.o (by unfold cQ;omega),by unfold bK;show _<=H.1/\H.1<=_;omega,?_,?_,?_,?_⟩,?_,?_⟩
 .exact QAP
 .exact aH.more bM (aH.set bM (aH.set bM (aH.set bM (aH.set bM (aH.set bM (aH.set bM (aH.set bM (aH.set bM (G.o) qh) qh) qh) qh) qh) qh) qh) qh) (fun b hb=>by have:=hb.1;show w.heap.size<=b;omega)
 .exact aH.nil
 .exact QAQ
 .exact QCw
 .exact QCn
theorem KU{L:List Tok}(T:Toks L)(M:AN L):∀n,n<=3->Yi L n
 |0,hn=>fun d a p g w hp b h=>by
  have e:Pg L 0:=fun d a p g w hp b h=>Iz T M d (by simpa using a) hp b g w h
  by_cases c:(aZ L [str "policy",str "set"] p).1=2
  .exact GI (n:=0) qo T e d a hp b g w h c
  .exact BO (n:=0) qo T d a hp b g w h c
 |n+1,hn=>fun d a p g w hp b h=>by
  have e:Pg L (n+1):=fun d a p g w hp b h=>Ja T M (n:=n) qo (KU T M n qo) d (by rw[a];omega) hp b g w h
  by_cases c:(aZ L [str "policy",str "set"] p).1=2
  .exact GI hn T e d a hp b g w h c
  .exact BO hn T d a hp b g w h c
theorem Yj{p:Prop}(h:p:=by
 go_enter func267,ntmps267;go_wp2;go_ret;exact⟨rfl,rfl⟩):p:=h
theorem GJ(a:At)(d:BV a)(w:World):Calls prog 284 #[oF a] w (aO (.bool (yF a)) w):=by
 unfold aO oF yF;have c:=aA (fun w=>oP a.name (by have:=d.2;unfold cQ at this;unfold maxLen;omega) w);generalize eO a.name=b at *;go_enter func284,ntmps284;go_wp2_with (go_at_call 68;refine(c.o _).mono ?_;rintro e w' ⟨rfl,rfl⟩)
 all_goals go_returns
 all_goals exact⟨bI (by rw[Bool.eq_iff_iff];simp[*]<;>(intros;omega)),by go_grown⟩
theorem UX(n:Nat)(w:World):Calls prog 267 #[.int .i64 n] w (fun e w'=>e=.returned (.int .i64 (oE n))/\w=w'):=by
 unfold oE;by_cases h0:n=0
 .rw[iP h0];have d:((n:Int)==0)=true:=bQ.2 qo;clear h0;exact Yj
 .rw[iN h0];have d:((n:Int)==0)=false:=bN.2 qo;by_cases h8:8<n
  .rw[iP h8];have d8:decide ((n:Int) > 8)=true:=dX qo;clear h0 h8;exact Yj
  .rw[iN h8];have d8:decide ((n:Int) > 8)=false:=dF qo;clear h0 h8;exact Yj
theorem UY(m:Ma)(g:tS m)(w:World):Calls prog 283 #[kL m] w (aO (.bool (sP m)) w):=by
 unfold aO kL sP;have a:=aA (fun w=>GJ m.aDg g.1 w);have j:=aA (fun w=>nH m.val.1 m.val.2.1 m.val.2.2 (by have:=g.2.2.2.2;unfold cQ at this;unfold maxLen;omega) w);unfold aO oF at a;unfold lD at j;generalize yF m.aDg=b at *;have e:aT m.val=aT (m.val.1,m.val.2.1,m.val.2.2):=rfl;rw[e];generalize aT (m.val.1,m.val.2.1,m.val.2.2)=c at *;clear e g;obtain⟨q,o⟩:=xE (w.alloc (.cells (JV m) 281));have l:=aA (aK w (.cells (JV m) 281) _ rfl);clear o;go_enter func283,ntmps283;go_wp2_with fail;refine(a.o _).mono ?_;rintro e w1 ⟨rfl,f⟩;have i:=qK l f;have d:=aA (aC (aB w _) f);obtain⟨⟨r,s,t,v,x,y,z⟩,_⟩:=bJ i.o;have p:=aD i.o;clear f a
 cases b
 .go_wp2;go_returns;exact⟨rfl,d.o⟩
 .go_wp2_with (go_at_call 71;refine(j.o _).mono ?_;rintro e w2 ⟨rfl,k⟩;have n:=qB d k;clear k)
  all_goals go_returns
  all_goals first
   |exact⟨bI (by rw[Bool.eq_iff_iff];simp[*]<;>(intros;omega)),n.o⟩
   |exact⟨bI (by rw[Bool.eq_iff_iff];simp[*]<;>(intros;omega)),d.o⟩
theorem Sr{p:Prop}(h:p:=by
 go_wp2;go_roundw
 case rel=>exact⟨k+1,qo,by go_num,HR2,HB2⟩
 case measure=>simp[intOf];omega):p:=h
theorem Ss{p:Prop}(h:p:=by
 have hk1:¬(k:Int)<(l.length:Int):=qo;obtain rfl:k=l.length:=qo;have HE:=aA (Jd HR.o);clear HR;go_wp2;go_returns;exact⟨by rw[HE.o];rfl,HB.o⟩):p:=h
theorem KV{α:Type}(f:α->Int)(l:List α)(k:Nat)(a:k<l.length):gF f (l.drop k)=if f l[k]≠0 then f l[k] else gF f (l.drop (k+1)):=by
 rw[List.drop_eq_getElem_cons a];rfl
theorem xK{α:Type}{f:α->Int}{l:List α}{k:Nat}{R:Int}(a:k<l.length)(h:gF f (l.drop k)=R)(h1:f l[k]≠0):R=f l[k]:=by
 rw[<-h,KV f l k a,iP h1]
theorem AO{α:Type}{f:α->Int}{l:List α}{k:Nat}{R:Int}(b:k<l.length)(h:gF f (l.drop k)=R)(h1:f l[k]=0):gF f (l.drop (k+1))=R:=by
 rw[<-h,KV f l k b,iN (fun a=>a h1)]
theorem Jd{α:Type}{f:α->Int}{l:List α}{R:Int}(h:gF f (l.drop l.length)=R):R=0:=by
 rw[<-h,List.drop_length];rfl
theorem Je{ok:nP}(v:Value)(l:List Ma)(w:World)(h:aH rM w ok v l):Calls prog 268 #[v] w (aO (.int .i64 (rH l)) w):=by
 obtain⟨a,c,rfl,I⟩:=h.slice;have y:=aA h;clear h;unfold aO rH;have o:=aA (UX l.length w);by_cases h0:oE l.length≠0
 .rw[iP h0];have d:(oE l.length != 0)=true:=bne_iff_ne.2 h0;clear h0;generalize oE l.length=F at *;go_enter func268,ntmps268;go_wp2_with fail;refine o.o.mono ?_;rintro e w1 ⟨rfl,rfl⟩;exact FX
 rw[iN h0];have h0:oE l.length=0:=by simpa using h0
 rw[h0] at o;clear h0;obtain⟨res,q⟩:=xE (gF (fun m=>if sP m then 0 else 1) l);rw[<-q];have HR0:Hid (gF (fun m=>if sP m then 0 else 1) (l.drop 0)=res):=aA (by rw[List.drop_zero];exact q.symm);clear q;go_enter func268,ntmps268;go_wp2_with fail;refine o.o.mono ?_;rintro e w1 ⟨rfl,rfl⟩;clear o;go_wp2;go_loopw [14] (fun i wr=>∃k:Nat,k<=l.length/\i=.int .i64 k/\Hid (gF (fun m=>if sP m then 0 else 1) (l.drop k)=res)/\Hid (Below w.heap.size w wr)) (fun i _=>l.length - (intOf i).toNat)
 case atStart=>exact ZL
 case round=>
  clear HR0;obtain⟨k,H,rfl,HR,HB⟩:=hrel;by_cases p:k<l.length
  .have hk1:(k:Int)<(l.length:Int):=qo;obtain⟨b,off,r,rfl,_,G,⟨rfl,t⟩,s⟩:=aH.at eQ (y.o.on eQ HB.o) p qe;obtain⟨x,z,A,B,C,D,E⟩:=CH s;rw[Nat.add_zero] at x;have n:=aA (fun h1=>xK p HR.o h1);have j:=aA (fun h1=>AO p HR.o h1);have f:=aA (fun w=>UY l[k] t w);unfold aO kL at f;clear s HR t;generalize l[k]=m at *
   cases hm:sP m
   .rw[hm] at f n;have HE:=aA (n.o qe);clear n j hm;go_wp2_with fail;refine(f.o _).mono ?_;rintro e w2 ⟨rfl,g⟩;have HB2:=aA (aC (aC HB.o (aB _ _)) g);clear g f;exact FY
   .rw[hm] at f j;have HR2:=aA (j.o qe);clear n j hm;go_wp2_with fail;refine(f.o _).mono ?_;rintro e w2 ⟨rfl,g⟩;have HB2:=aA (aC (aC HB.o (aB _ _)) g);clear g f x z A B C D E;exact Sr
  .exact Ss
theorem Jf{ok:nP}(v:Value)(l:List (List Ma))(w:World)(h:aH (rows rM) w ok v l):Calls prog 249 #[v] w (aO (.int .i64 (rI l)) w):=by
 obtain⟨a,c,rfl,C⟩:=h.slice;have y:=aA h;clear h;unfold aO rI;have j:=aA (UX l.length w);by_cases h0:oE l.length≠0
 .rw[iP h0];have d:(oE l.length != 0)=true:=bne_iff_ne.2 h0;clear h0;generalize oE l.length=z at *;go_enter func249,ntmps249;go_wp2_with fail;refine j.o.mono ?_;rintro e w1 ⟨rfl,rfl⟩;exact FX
 rw[iN h0];have h0:oE l.length=0:=by simpa using h0
 rw[h0] at j;clear h0;obtain⟨res,q⟩:=xE (gF rH l);rw[<-q];have HR0:Hid (gF rH (l.drop 0)=res):=aA (by rw[List.drop_zero];exact q.symm);clear q;go_enter func249,ntmps249;go_wp2_with fail;refine j.o.mono ?_;rintro e w1 ⟨rfl,rfl⟩;clear j;go_wp2;go_loopw [15] (fun i wr=>∃k:Nat,k<=l.length/\i=.int .i64 k/\Hid (gF rH (l.drop k)=res)/\Hid (Below w.heap.size w wr)) (fun i _=>l.length - (intOf i).toNat)
 case atStart=>exact ZL
 case round=>
  clear HR0;obtain⟨k,B,rfl,HR,HB⟩:=hrel;by_cases p:k<l.length
  .have hk1:(k:Int)<(l.length:Int):=qo;obtain⟨b,off,r,rfl,_,A,⟨D,rfl,s⟩,x⟩:=aH.at dN (y.o.on dN HB.o) p qe;obtain⟨E,F,rfl,_⟩:=s.slice;have t:=x 0 _ rfl;rw[Nat.add_zero,Nat.mul_one] at t;have o:=aA (fun h1=>xK p HR.o h1);have n:=aA (fun h1=>AO p HR.o h1);have f:=aA (Je _ l[k] wr s);unfold aO at f;clear x HR s;by_cases he:rH l[k]=0
   .have HR2:=aA (n.o he);rw[he] at f;clear o n he;generalize l[k]=m at *;go_wp2_with fail;refine f.o.mono ?_;rintro e w2 ⟨rfl,g⟩;have HB2:=qB HB g;clear g f t;exact Sr
   .have HE:=aA (o.o he);have d2:(rH l[k] != 0)=true:=bne_iff_ne.2 he;clear o n he;generalize l[k]=m at *;generalize rH m=em at *;go_wp2_with fail;refine f.o.mono ?_;rintro e w2 ⟨rfl,g⟩;have HB2:=qB HB g;clear g f t;exact FY
  .exact Ss
theorem KW{ok:nP}(v:Value)(l:List (List (List Ma)))(w:World)(h:aH (rows (rows rM)) w ok v l):Calls prog 225 #[v] w (aO (.int .i64 (eX l)) w):=by
 obtain⟨a,c,rfl,A⟩:=h.slice;have x:=aA h;clear h;unfold aO eX;by_cases h0:8<l.length
 .rw[iP h0];have d:decide ((l.length:Int) > 8)=true:=dX qo;clear h0;go_enter func225,ntmps225;exact FX
 rw[iN h0];have d:decide ((l.length:Int) > 8)=false:=dF qo;clear h0;obtain⟨res,p⟩:=xE (gF rI l);rw[<-p];have HR0:Hid (gF rI (l.drop 0)=res):=aA (by rw[List.drop_zero];exact p.symm);clear p;go_enter func225,ntmps225;go_wp2;go_loopw [11] (fun i wr=>∃k:Nat,k<=l.length/\i=.int .i64 k/\Hid (gF rI (l.drop k)=res)/\Hid (Below w.heap.size w wr)) (fun i _=>l.length - (intOf i).toNat)
 case atStart=>exact ZL
 case round=>
  clear HR0;obtain⟨k,z,rfl,HR,HB⟩:=hrel;by_cases o:k<l.length
  .have hk1:(k:Int)<(l.length:Int):=qo;obtain⟨b,off,r,rfl,_,y,⟨B,rfl,q⟩,t⟩:=aH.at aS (x.o.on aS HB.o) o qe;obtain⟨C,D,rfl,_⟩:=q.slice;have s:=t 0 _ rfl;rw[Nat.add_zero,Nat.mul_one] at s;have n:=aA (fun h1=>xK o HR.o h1);have j:=aA (fun h1=>AO o HR.o h1);have f:=aA (Jf _ l[k] wr q);unfold aO at f;clear t HR q;by_cases he:rI l[k]=0
   .have HR2:=aA (j.o he);rw[he] at f;clear n j he;generalize l[k]=m at *;go_wp2_with fail;refine f.o.mono ?_;rintro e w2 ⟨rfl,g⟩;have HB2:=qB HB g;clear g f s;exact Sr
   .have HE:=aA (n.o he);have d2:(rI l[k] != 0)=true:=bne_iff_ne.2 he;clear n j he;generalize l[k]=m at *;generalize rI m=em at *;go_wp2_with fail;refine f.o.mono ?_;rintro e w2 ⟨rfl,g⟩;have HB2:=qB HB g;clear g f s;exact FY
  .exact Ss
theorem Jg{p:Prop}(h:p:=by
 go_wp2;go_returns;exact⟨by rw[HE.o];rfl,aC HB.o (aB _ _)⟩):p:=h
theorem UZ{ok:nP}(v:Value)(l:List Ob)(w:World)(h:aH jU w ok v l):Calls prog 226 #[v] w (aO (.int .i64 (lC l)) w):=by
 obtain⟨a,c,rfl,N⟩:=h.slice;have D:=aA h;clear h;unfold aO lC;by_cases h0:8<l.length
 .rw[iP h0];have d:decide ((l.length:Int) > 8)=true:=dX qo;clear h0;go_enter func226,ntmps226;exact FX
 rw[iN h0];have d:decide ((l.length:Int) > 8)=false:=dF qo;clear h0;obtain⟨f,t⟩:∃f:Ob->Int,f=(fun o:Ob=>if (1<=o.on/\o.on<=2)/\(1<=o.aCR/\o.aCR<=4)/\eO o.arg=true then (0:Int) else 1):=⟨_,rfl⟩;rw[<-t];have j:Hid (∀o:Ob,¬((1<=o.on/\o.on<=2)/\(1<=o.aCR/\o.aCR<=4)/\eO o.arg=true)->f o=1):=aA (fun o h=>by rw[t];exact iN h);have n:Hid (∀o:Ob,((1<=o.on/\o.on<=2)/\(1<=o.aCR/\o.aCR<=4)/\eO o.arg=true)->f o=0):=aA (fun o h=>by rw[t];exact iP h);clear t;obtain⟨res,z⟩:=xE (gF f l);rw[<-z];have HR0:Hid (gF f (l.drop 0)=res):=aA (by rw[List.drop_zero];exact z.symm);clear z;go_enter func226,ntmps226;go_wp2;go_loopw [10] (fun i wr=>∃k:Nat,k<=l.length/\i=.int .i64 k/\Hid (gF f (l.drop k)=res)/\Hid (Below w.heap.size w wr)) (fun i _=>l.length - (intOf i).toNat)
 case atStart=>exact ZL
 case round=>
  clear HR0;obtain⟨k,M,rfl,HR,HB⟩:=hrel;by_cases y:k<l.length
  .have hk1:(k:Int)<(l.length:Int):=qo;obtain⟨b,off,r,rfl,_,L,⟨rfl,B⟩,A⟩:=aH.at aP (D.o.on aP HB.o) y qe;obtain⟨C,J,K⟩:=cR3 A;rw[Nat.add_zero] at C;have m:=aA (fun h1=>xK y HR.o h1);have p:=aA (fun h1=>AO y HR.o h1);have s:=aA (fun w=>oP l[k].arg (by have:=B.2.2;unfold cQ at this;unfold maxLen;omega) w);clear A HR B;generalize l[k]=o at *;by_cases h1:o.on<1
   .have HE:Hid (res=1):=aA (by
     have g:=j.o o (by rintro⟨x,a2,_⟩;omega);rw[m.o (by rw[g];decide),g])
    clear m p n j;have E:decide (o.on<1)=true:=dX qo;clear h1;exact Jg
   have E:decide (o.on<1)=false:=dF qo;by_cases h2:2<o.on
   .have HE:Hid (res=1):=aA (by
     have g:=j.o o (by rintro⟨x,a2,_⟩;omega);rw[m.o (by rw[g];decide),g])
    clear m p n j;have F:decide (o.on > 2)=true:=dX qo;clear h2;exact Jg
   have F:decide (o.on > 2)=false:=dF qo;by_cases h3:o.aCR<1
   .have HE:Hid (res=1):=aA (by
     have g:=j.o o (by rintro⟨x,a2,_⟩;omega);rw[m.o (by rw[g];decide),g])
    clear m p n j;have G:decide (o.aCR<1)=true:=dX qo;clear h3;exact Jg
   have G:decide (o.aCR<1)=false:=dF qo;by_cases h4:4<o.aCR
   .have HE:Hid (res=1):=aA (by
     have g:=j.o o (by rintro⟨x,a2,_⟩;omega);rw[m.o (by rw[g];decide),g])
    clear m p n j;have H:decide (o.aCR > 4)=true:=dX qo;clear h4;exact Jg
   have H:decide (o.aCR > 4)=false:=dF qo
   cases q:eO o.arg
   .have I:=q;rw[q] at s;have HE:Hid (res=1):=aA (by
     have g:=j.o o (by rintro⟨_,_,a3⟩;rw[q] at a3;cases a3);rw[m.o (by rw[g];decide),g])
    clear m p n j;clear q I h1 h2 h3 h4;go_wp2_with fail;refine(s.o _).mono ?_;rintro e w2 ⟨rfl,rfl⟩;clear s;exact Jg
   .rw[q] at s;have HR2:=aA (p.o (n.o o ⟨⟨qo,qo⟩,⟨qo,qo⟩,q⟩));have HB2:=qB HB (aB _ (.cells #[.int .i64 o.on,.int .i64 o.aCR,.string o.arg] 194));clear q h1 h2 h3 h4 m p n j;go_wp2_with fail;refine(s.o _).mono ?_;rintro e w2 ⟨rfl,rfl⟩;clear s C J K;exact Sr
  .exact Ss
theorem QDe{p:Prop}(h:p:=by
 go_wp2
 all_goals go_returns
 all_goals exact⟨bI (by rw[Bool.eq_iff_iff];simp[*]),HB.o⟩):p:=h
theorem GK(b:bY):b=ByteArray.empty↔b.toList=[]:=by
 rw[Lib.toList_data];constructor
 .rintro rfl;rfl
 .intro h
  apply ByteArray.ext
  apply Array.ext'
  rw[h];rfl
theorem VA(v:V3):(decide (v=bD))=decide (v.1=0/\v.2.1=0/\v.2.2.toList=[]):=by
 obtain⟨a,b,c⟩:=v;rw[Bool.eq_iff_iff];simp[bD,<-GK]
theorem VB(v:At):(decide (v=uK))=decide (v.cat=0/\v.name.toList=[]/\v.aDq=false):=by
 obtain⟨a,b,c⟩:=v;rw[Bool.eq_iff_iff];simp[uK,<-GK]
theorem Dr(n:No)(i:oO n)(w:World):Calls prog 270 #[jJ n] w (aO (.bool (qO n)) w):=by
 unfold aO jJ qO;have f:=aA (fun w=>GJ n.aDg i.2.2 w);have g:=aA (fun w=>nH n.val.1 n.val.2.1 n.val.2.2 (by have:=i.2.1.2.2;unfold cQ at this;unfold maxLen;omega) w);unfold aO oF at f;unfold lD at g;generalize yF n.aDg=b at *;have e:aT n.val=aT (n.val.1,n.val.2.1,n.val.2.2):=rfl;rw[e];generalize aT (n.val.1,n.val.2.1,n.val.2.2)=c at *;clear e i;have j:=aA (aK w (.cells (iR n) 294) _ rfl);have k:=aA (aB w (.cells (iR n) 294));by_cases h1:n.op=1
 .rw[iP h1];have d1:(n.op==1)=true:=bQ.2 h1;clear h1 f;rw[VB];go_enter func270,ntmps270;go_wp2_with fail;refine(g.o _).mono ?_;rintro e w1 ⟨rfl,a⟩;have d:=qK j a;have HB:=qB k a;obtain⟨⟨m,o,p,q,r,s,t⟩,_⟩:=bJ d.o;have l:=aD d.o;clear a g
  cases c
  .go_wp2;go_returns;exact⟨rfl,HB.o⟩
  .exact QDe
 rw[iN h1];have d1:(n.op==1)=false:=bN.2 h1;clear h1 g;by_cases h2:n.op=2
 .rw[iP h2];have d2:(n.op==2)=true:=bQ.2 h2;clear h2;rw[VA];go_enter func270,ntmps270;go_wp2_with fail;refine(f.o _).mono ?_;rintro e w1 ⟨rfl,a⟩;have d:=qK j a;have HB:=qB k a;obtain⟨⟨m,o,p,q,r,s,t⟩,_⟩:=bJ d.o;have l:=aD d.o;clear a f
  cases b
  .go_wp2;go_returns;exact⟨rfl,HB.o⟩
  .exact QDe
 rw[iN h2];have d2:(n.op==2)=false:=bN.2 h2;clear h2 f;rw[VA,VB];go_enter func270,ntmps270;go_wp2
 all_goals go_returns
 all_goals exact⟨bI (by rw[Bool.eq_iff_iff];simp[*]),aB _ _⟩
theorem QBG{p:Prop}(h:p:=by
 have B0:=aA (aK w (.cells #[.bool true] 4) _ rfl);have HB0:=aA (aB w (.cells #[.bool true] 4));go_enter func269,ntmps269;go_wp2;go_returns;exact⟨_,rfl,HB0.o,xL (l:=[true]) B0.o (lR _) rfl rfl qe⟩):p:=h
theorem St{p:Prop}(h:p:=by
 go_enter func269,ntmps269;go_wp2;go_returns;exact⟨_,rfl,Below.refl _ _,aH.nil⟩):p:=h
theorem GL(w:World)(ok:nP):∀l:List Bool,aX (DC w ok) (l.map Value.bool) l
 | []=>rfl
 |x::l=>⟨[.bool x],l.map Value.bool,rfl,⟨rfl,trivial⟩,GL w ok l⟩
theorem xL{w:World}{ok:nP}{b:Nat}{cs:Array Value}{e:TypeId}{fr:Nat×Nat}{l:List Bool}{c n:Nat}(d:w.heap[b]? =some (.cells cs e fr))(j:ok b)(f:cs.toList=l.map Value.bool)(g:l.length=n)(k:n<=1000000):aH DC w ok (.slice (some ⟨b,0,none⟩) n c) l:=by
 refine⟨_,c,l.map Value.bool,by rw[g],fun _=>⟨b,0,rfl,j,fun i x a=> ?_⟩,GL w ok l,qo⟩;rw[<-f] at a;simp only[World.cell?,d,Nat.zero_add];simpa using a
def DP(op:Int)(w:World)(e:Ending)(w':World):Prop:=
 ∃v,e=.returned (.tuple #[v,.bool (mO op).isSome])/\Below w.heap.size w w'/\aH DC w' (fun b=>w.heap.size<=b) v ((mO op).getD [])
theorem Jh(op:Int)(w:World):Calls prog 269 #[.int .i64 op] w (DP op w):=by
 unfold DP mO;by_cases h1:op=1
 .subst h1;rw[iP (.inl rfl)];exact St
 by_cases h2:op=2
 .subst h2;rw[iP (.inr rfl)];exact St
 rw[iN qo];have d1:(op==1)=false:=bN.2 h1;have d2:(op==2)=false:=bN.2 h2;clear h1 h2;by_cases h1:op=3
 .subst h1;rw[iP (.inl rfl)];exact QBG
 by_cases h2:op=4
 .subst h2;rw[iP (.inr rfl)];exact QBG
 rw[iN qo];have d3:(op==3)=false:=bN.2 h1;have d4:(op==4)=false:=bN.2 h2;clear h1 h2;by_cases h1:op=5
 .subst h1;rw[iP rfl];have B0:=aA (aK w (.cells #[.bool true,.bool false] 4) _ rfl);have HB0:=aA (aB w (.cells #[.bool true,.bool false] 4));go_enter func269,ntmps269;go_wp2;go_returns;exact⟨_,rfl,HB0.o,xL (l:=[true,false]) B0.o (lR _) rfl rfl qe⟩
 rw[iN h1];have d5:(op==5)=false:=bN.2 h1;clear h1;by_cases h1:op=11
 .subst h1;rw[iP rfl];have B0:=aA (aK w (.cells #[.bool false] 4) _ rfl);have HB0:=aA (aB w (.cells #[.bool false] 4));go_enter func269,ntmps269;go_wp2;go_returns;exact⟨_,rfl,HB0.o,xL (l:=[false]) B0.o (lR _) rfl rfl qe⟩
 rw[iN h1];have d11:(op==11)=false:=bN.2 h1;clear h1;by_cases h1:6<=op
 .have d6:decide (op ≥ 6)=true:=dX h1;by_cases h2:op<=13
  .rw[iP ⟨h1,h2⟩];have d7:decide (op<=13)=true:=dX h2;clear h1 h2;have B0:=aA (aK w (.cells #[.bool false,.bool false] 4) _ rfl);have HB0:=aA (aB w (.cells #[.bool false,.bool false] 4));go_enter func269,ntmps269;go_wp2;go_returns;exact⟨_,rfl,HB0.o,xL (l:=[false,false]) B0.o (lR _) rfl rfl qe⟩
  .rw[iN (fun h=>h2 h.2)];have d7:decide (op<=13)=false:=dF h2;clear h1 h2;exact St
 .rw[iN (fun h=>h1 h.1)];have d6:decide (op ≥ 6)=false:=dF h1;clear h1;exact St
end Go.Proofs.YtbinmcabjnoliaaGreatDoor
