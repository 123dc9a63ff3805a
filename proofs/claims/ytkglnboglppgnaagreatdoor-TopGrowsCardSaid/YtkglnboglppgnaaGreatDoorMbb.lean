/- Lemmas. -/
import Derived.Test.YtkglnboglppgnaaGreatDoorMba
namespace Go.Proofs.YtkglnboglppgnaaGreatDoor
open Go.RowKit
set_option linter.unusedVariables false
set_option linter.unusedSimpArgs false
set_option maxHeartbeats 16000000
open _root_.Go.Proofs.Tryz
set_option maxRecDepth 20000
theorem QCw{p:Prop}(h:p:=by
 exact((((((((HP.o.set qo).set qo).set qo).set qo).set qo).set qo).set qo).set qo)):p:=h
theorem QCn{p:Prop}(h:p:=by
 exact dD.end (((((((((HK.o.set qo).set qo).set qo).set qo).set qo).set qo).set qo).set qo))):p:=h
theorem QAQ{p:Prop}(h:p:=by
 exact aI.more aQ (aI.set aQ (aI.set aQ (aI.set aQ (aI.set aQ (aI.set aQ (aI.set aQ (aI.set aQ (aI.set aQ (HSo.o) qh) qh) qh) qh) qh) qh) qh) qh) (fun b hb=>by have:=hb.1;show w.heap.size<=b;omega)):p:=h
theorem QAP{p:Prop}(h:p:=by
 exact aI.more aT (aI.set aT (aI.set aT (aI.set aT (aI.set aT (aI.set aT (aI.set aT (aI.set aT (aI.set aT (HSt.o) qh) qh) qh) qh) qh) qh) qh) qh) (fun b hb=>by have:=hb.1;show w.heap.size<=b;omega)):p:=h
def vD(L:List Tok):Nat->PS->List Po×PS
 |0,p=>gP L (fun q=>(mD,q)) true L.length [] p
 |n+1,p=>gP L (cT L n) false L.length [] p
theorem Eb(L:List Tok)(n:Nat)(p:PS)(h:(bB L [str "policy",str "set"] p).1=2):cT L n p=
 (.mk (bV L (bB L [str "policy",str "set"] p).2).1 true (bB L dK (bV L (bB L [str "policy",str "set"] p).2).2).1 (bW L (bB L dK (bV L (bB L [str "policy",str "set"] p).2).2).2).1 [] (vD L n (eI L qY (bW L (bB L dK (bV L (bB L [str "policy",str "set"] p).2).2).2).2)).1 (gO L (eI L yH (vD L n (eI L qY (bW L (bB L dK (bV L (bB L [str "policy",str "set"] p).2).2).2).2)).2)).1,
  (gO L (eI L yH (vD L n (eI L qY (bW L (bB L dK (bV L (bB L [str "policy",str "set"] p).2).2).2).2)).2)).2):=by
 cases n with
 |zero=>
  unfold cT vD;dsimp only;rw[dX h,iP rfl]
 |succ n=>
  unfold cT vD;dsimp only;rw[dX h,iP rfl]
theorem VF(L:List Tok)(n:Nat)(p:PS)(h:(bB L [str "policy",str "set"] p).1≠2):cT L n p=
 (.mk (bV L (bB L [str "policy",str "set"] p).2).1 false (bB L dK (bV L (bB L [str "policy",str "set"] p).2).2).1 (bW L (bB L dK (bV L (bB L [str "policy",str "set"] p).2).2).2).1 (iL L L.length [] (eI L qY (bW L (bB L dK (bV L (bB L [str "policy",str "set"] p).2).2).2).2)).1 [] (gO L (eI L yH (iL L L.length [] (eI L qY (bW L (bB L dK (bV L (bB L [str "policy",str "set"] p).2).2).2).2)).2)).1,
  (gO L (eI L yH (iL L L.length [] (eI L qY (bW L (bB L dK (bV L (bB L [str "policy",str "set"] p).2).2).2).2)).2)).2):=by
 cases n with
 |zero=>
  unfold cT;dsimp only;rw[dF h,iN qe]
 |succ n=>
  unfold cT;dsimp only;rw[dF h,iN qe]
theorem Jp{L:List Tok}(T:Toks L)(n:Nat){p:PS}(h:p.at_<L.length):dM L p (vD L n p).2:=by
 cases n with
 |zero=>exact qT (one:=fun q=>(mD,q)) (fun h=>dM.refl h) true L.length [] h
 |succ n=>exact qT (one:=cT L n) (rQ T n) false L.length [] h
def Pw(L:List Tok)(n:Nat):Prop:=∀(d:Int),d=5 - (n:Int)->∀p g w,p.at_<L.length->p.aC6<=64->PW L w g p->
 Calls prog 135 #[.pointer (some ⟨g,0,none⟩),.int .i64 d] w (iM (qE n) L g w (vD L n p).1 (vD L n p).2)
abbrev alW:Array Value:=#[.string ⟨#[100,101,110,121,111,118,101,114]⟩,.string ⟨#[112,101,114,109,105,116,111,118,101,114]⟩,.string ⟨#[102,105,114,115,116]⟩,.string ⟨#[111,110,108,121]⟩,.string ⟨#[100,101,110,121,117,110,108,101,115,115]⟩,.string ⟨#[112,101,114,109,105,116,117,110,108,101,115,115]⟩]
theorem GL{L:List Tok}{n:Nat}(hn:n<=3)(T:Toks L)(S:Pw L n){p:PS}(d:Int)(hd:d=4 - (n:Int))(hp:p.at_<L.length)(af:p.aC6<=64)(g:Nat)(w:World)(h:PW L w g p)(Q:(bB L [str "policy",str "set"] p).1=2):
 Calls prog 74 #[.pointer (some ⟨g,0,none⟩),.int .i64 d] w (wM n L g w (cT L n p).1 (cT L n p).2):=by
 have hL:=T.len;have aq:=h.lt;have HP:=aA h;have m1:=dS T [str "policy",str "set"] hp;have m2:=jF T m1.lt;have m3:=dS T dK m2.lt;have m4:=lS T m3.lt;have m5:=gC T qY m4.lt;have m15:=m1.trans (m2.trans (m3.trans (m4.trans m5)));have U:=m15.aDO af;have m6:=Jp T n m5.lt;have m7:=gC T yH m6.lt;have I:=aA (fun a c w h hw=>nF T [str "policy",str "set"] a c 2 rfl qe hp g w h hw);have R:=aA (fun w h=>rC T m1.lt g w h);have J:=aA (fun a c w h hw=>nF T dK a c 6 rfl qe m2.lt g w h hw);have P:=aA (fun w h=>tN T m3.lt g w h);have O:=aA (fun w h=>mH T qY m4.lt g w h);have K:=aA (fun w h=>S (d+1) qo (eI L qY (bW L (bB L dK (bV L (bB L [str "policy",str "set"] p).2).2).2).2) g w m5.lt U h);have N:=aA (fun w h=>mH T yH m6.lt g w h);have M:=aA (fun w h=>vB T m7.lt g w h);have ab:=aA (rG T m1.lt);have aa:=aA (nQ (L:=L) dK (bV L (bB L [str "policy",str "set"] p).2).2);have d1:1<=d:=qo;have d2:d<=4:=qo;rw[Eb L n p Q];unfold wM;unfold iM at P M K;clear h m1 m2 m3 m4 m5 m6 m7 m15 U S hd;generalize bB L [str "policy",str "set"] p=V at *;generalize bV L V.2=W at *;generalize bB L dK W.2=H at *;generalize bW L H.2=X at *;generalize eI L qY X.2=p5 at *;generalize vD L n p5=Y at *;generalize eI L yH Y.2=p7 at *;generalize gO L p7=r8 at *;rw[vU,JU] at I;rw[show dK=[⟨#[100,101,110,121,111,118,101,114]⟩,⟨#[112,101,114,109,105,116,111,118,101,114]⟩,⟨#[102,105,114,115,116]⟩,⟨#[111,110,108,121]⟩,⟨#[100,101,110,121,117,110,108,101,115,115]⟩,⟨#[112,101,114,109,105,116,117,110,108,101,115,115]⟩] from by kernel_rfl] at J
 rw[SY] at O;rw[SZ] at N;have ao:(V.1==2)=true:=bQ.2 Q;clear Q;dsimp only;go_enter func74,ntmps74;have HK:=aA (dD.refl w.heap.size g w);go_wp2_with fail;refine(I.o _ _ _ (HP.o.alloc.alloc.alloc) (nG _ _ _ _ _ qs rfl)).mono ?_;rintro e w1 ⟨rfl,k,f⟩;obtain⟨j,i,l,HK,HP⟩:=gG (aG (aF (aF (aM _ _ _ qs) (aB _ _)) (aB _ _)) f qo:w1.heap[w.heap.size]? =some (.cells wF 38 (0,0))) (aG (aF (aM _ _ _ qs) (aB _ _)) f qo:w1.heap[w.heap.size+1]? =some (.cells wF 38 (0,0))) (aG (aM _ _ _ qs) f qo:w1.heap[w.heap.size+2]? =some (.cells #[.string ⟨#[112,111,108,105,99,121]⟩,.string ⟨#[115,101,116]⟩] 9 (0,0))) (HK.o.alloc.alloc.alloc.aDk f) k;clear k f;have bf:=aE j.o;have bp:=aE i.o;have ar:=aE l.o;have bz:=HP.o.lt;clear I;obtain⟨⟨o,q,r,s,t,v,x⟩,y,z,A,B,C,D,E⟩:=bL i.o;go_wp2_with fail;refine(R.o _ ((HP.o.set qo))).mono ?_;rintro e w2 ⟨rfl,k,f⟩;obtain⟨j,i,l,HK,HP⟩:=gG (aG (bG (j.o) qo) f qo) (aG (Se (i.o) _) f qo) (aG (bG (l.o) qo) f qo) ((HK.o.set qo).aDk f) k;clear k f o q r s t v x y z A B C D E;have bg:=aE j.o;have bq:=aE i.o;have au:=aE l.o;have b0:=HP.o.lt;clear R;obtain⟨⟨o,q,r,s,t,v,x⟩,y,z,A,B,C,D,E⟩:=bL i.o;go_wp2_with fail;refine(J.o _ _ _ ((HP.o.set qo).alloc) (nG _ _ _ _ _ qs rfl)).mono ?_;rintro e w3 ⟨rfl,k,f⟩;obtain⟨j,i,l,m,HK,HP⟩:=hD6 (aG (aF (bG (j.o) qo) (aB _ _)) f qo) (aG (aF (Sd (i.o) _) (aB _ _)) f qo) (aG (aF (bG (l.o) qo) (aB _ _)) f qo) (aG (aM _ _ _ qs) f qo:w3.heap[w2.heap.size]? =some (.cells alW 9 (0,0))) ((HK.o.set qo).alloc.aDk f) k;clear k f o q r s t v x y z A B C D E
 have bh:=aE j.o;have br:=aE i.o;have av:=aE l.o;have a6:=aE m.o;have b1:=HP.o.lt;clear J;obtain⟨⟨o,q,r,s,t,v,x⟩,y,z,A,B,C,D,E⟩:=bL i.o;go_wp2_with fail;refine(P.o _ ((HP.o.set qo))).mono ?_;rintro e w4 ⟨Z,rfl,F,k,f⟩;obtain⟨ta,tc,rfl,tl⟩:=F.slice;obtain⟨j,i,l,m,HK,HP⟩:=hD6 (aG (bG (j.o) qo) f qo) (aG (Sf (i.o) _) f qo) (aG (bG (l.o) qo) f qo) (aG (bG (m.o) qo) f qo) ((HK.o.set qo).aDk f) k;clear k f o q r s t v x y z A B C D E;have bj:=aE j.o;have bs:=aE i.o;have aw:=aE l.o;have a7:=aE m.o;have b2:=HP.o.lt;have HSt:=aA (aI.more aT (aI.inb aT F) (ok':=fun b=>w.heap.size<b/\b≠w.heap.size+1) (fun b hb=>by have h1:=hb.1;(try simp only[World.setCell,Array.size_modify] at h1);have h3:w3.heap.size<=b:=h1;exact⟨by show w.heap.size<b;omega,by show b≠w.heap.size+1;omega⟩));clear F;clear P;obtain⟨⟨o,q,r,s,t,v,x⟩,y,z,A,B,C,D,E⟩:=bL i.o;go_wp2_with fail;refine(O.o _ ((HP.o.set qo))).mono ?_;rintro e w5 ⟨rfl,k,f⟩;obtain⟨j,i,l,m,HK,HP⟩:=hD6 (aG (bG (j.o) qo) f qo) (aG (JX (i.o) _) f qo) (aG (bG (l.o) qo) f qo) (aG (bG (m.o) qo) f qo) ((HK.o.set qo).aDk f) k;have HSt:=aA (aI.aDk aT (aI.set aT (HSt.o) qh) f qh);clear k f o q r s t v x y z A B C D E;have bk:=aE j.o;have bt:=aE i.o;have ax:=aE l.o;have a8:=aE m.o;have b3:=HP.o.lt;clear O;obtain⟨⟨o,q,r,s,t,v,x⟩,y,z,A,B,C,D,E⟩:=bL i.o;go_wp2_with fail;refine(K.o _ (HP.o)).mono ?_;rintro e w6 ⟨Z,rfl,F,k,f⟩;obtain⟨ba,bc,rfl,bl⟩:=F.slice;obtain⟨j,i,l,m,HK,HP⟩:=hD6 (aG (j.o) f qo) (aG (i.o) f qo) (aG (l.o) f qo) (aG (m.o) f qo) (HK.o.aDk f) k
 have HSt:=aA (aI.aDk aT (HSt.o) f qh);clear k f o q r s t v x y z A B C D E;have bm:=aE j.o;have bu:=aE i.o;have ay:=aE l.o;have bb:=aE m.o;have b4:=HP.o.lt;have G:=aA (aI.more (bD n) (aI.inb (bD n) F) (ok':=fun b=>w.heap.size<b/\b≠w.heap.size+1) (fun b hb=>by have h1:=hb.1;(try simp only[World.setCell,Array.size_modify] at h1);have h3:w5.heap.size<=b:=h1;exact⟨by show w.heap.size<b;omega,by show b≠w.heap.size+1;omega⟩));clear F;clear K;obtain⟨⟨o,q,r,s,t,v,x⟩,y,z,A,B,C,D,E⟩:=bL i.o;go_wp2_with fail;refine(N.o _ ((HP.o.set qo))).mono ?_;rintro e w7 ⟨rfl,k,f⟩;obtain⟨j,i,l,m,HK,HP⟩:=hD6 (aG (bG (j.o) qo) f qo) (aG (aAi (i.o) _) f qo) (aG (bG (l.o) qo) f qo) (aG (bG (m.o) qo) f qo) ((HK.o.set qo).aDk f) k;have HSt:=aA (aI.aDk aT (aI.set aT (HSt.o) qh) f qh);have G:=aA (aI.aDk (bD n) (aI.set (bD n) (G.o) qh) f qh);clear k f o q r s t v x y z A B C D E;have bn:=aE j.o;have bw:=aE i.o;have az:=aE l.o;have bd:=aE m.o;have b5:=HP.o.lt;clear N;go_wp2_with fail;refine(M.o _ (HP.o)).mono ?_;rintro e w8 ⟨Z,rfl,F,k,f⟩;obtain⟨oa,oc,rfl,ol⟩:=F.slice;obtain⟨j,i,l,m,HK,HP⟩:=hD6 (aG (j.o) f qo) (aG (i.o) f qo) (aG (l.o) f qo) (aG (m.o) f qo) (HK.o.aDk f) k;have HSt:=aA (aI.aDk aT (HSt.o) f qh);have G:=aA (aI.aDk (bD n) (G.o) f qh)
 clear k f;have bo:=aE j.o;have bx:=aE i.o;have a1:=aE l.o;have be:=aE m.o;have b6:=HP.o.lt;have HSo:=aA (aI.more aQ (aI.inb aQ F) (ok':=fun b=>w.heap.size<b/\b≠w.heap.size+1) (fun b hb=>by have h1:=hb.1;(try simp only[World.setCell,Array.size_modify] at h1);have h3:w7.heap.size<=b:=h1;exact⟨by show w.heap.size<b;omega,by show b≠w.heap.size+1;omega⟩));clear F;clear M;obtain⟨⟨o,q,r,s,t,v,x⟩,y,z,A,B,C,D,E⟩:=bL i.o;obtain⟨⟨R0,R1,R2,R3,R4,R5,R6⟩,ag,ah,ai,aj,ak,al,an⟩:=bL j.o;go_wp2;refine bR (.agg #[.string W.1,.bool true,.int .i64 H.1,.slice ta X.1.length tc,.slice none 0 0,.slice ba Y.1.length bc,.slice oa r8.1.length oc]) ?_;have ae:=aa.o;have ad:dK.length=6:=rfl;rw[ad] at ae;refine⟨_,_,_,_,rfl,⟨lT ab.o (by unfold cV;omega),by unfold bO;show _<=H.1/\H.1<=_;omega,?_,?_,?_,?_⟩,?_,?_⟩
 .exact QAP
 .exact aI.nil
 .exact aI.more (bD n) (aI.set (bD n) (aI.set (bD n) (aI.set (bD n) (aI.set (bD n) (aI.set (bD n) (aI.set (bD n) (aI.set (bD n) (aI.set (bD n) (G.o) qh) qh) qh) qh) qh) qh) qh) qh) (fun b hb=>by have:=hb.1;show w.heap.size<=b;omega)
 .exact QAQ
 .exact QCw
 .exact QCn
theorem BU{L:List Tok}{n:Nat}(hn:n<=3)(T:Toks L){p:PS}(d:Int)(hd:d=4 - (n:Int))(hp:p.at_<L.length)(af:p.aC6<=64)(g:Nat)(w:World)(h:PW L w g p)(Q:(bB L [str "policy",str "set"] p).1≠2):
 Calls prog 74 #[.pointer (some ⟨g,0,none⟩),.int .i64 d] w (wM n L g w (cT L n p).1 (cT L n p).2):=by
 have hL:=T.len;have aq:=h.lt;have HP:=aA h;have m1:=dS T [str "policy",str "set"] hp;have m2:=jF T m1.lt;have m3:=dS T dK m2.lt;have m4:=lS T m3.lt;have m5:=gC T qY m4.lt;have m15:=m1.trans (m2.trans (m3.trans (m4.trans m5)));have S:=m15.aDO af;have m6:=sU T L.length [] m5.lt;have m7:=gC T yH m6.lt;have I:=aA (fun a c w h hw=>nF T [str "policy",str "set"] a c 2 rfl qe hp g w h hw);have R:=aA (fun w h=>rC T m1.lt g w h);have J:=aA (fun a c w h hw=>nF T dK a c 6 rfl qe m2.lt g w h hw);have P:=aA (fun w h=>tN T m3.lt g w h);have O:=aA (fun w h=>mH T qY m4.lt g w h);have K:=aA (fun w h=>Pu T m5.lt S g w h);have N:=aA (fun w h=>mH T yH m6.lt g w h);have M:=aA (fun w h=>vB T m7.lt g w h);have ab:=aA (rG T m1.lt);have aa:=aA (nQ (L:=L) dK (bV L (bB L [str "policy",str "set"] p).2).2);have d1:1<=d:=qo;have d2:d<=4:=qo;rw[VF L n p Q];unfold wM;unfold iM at P M K;clear h m1 m2 m3 m4 m5 m6 m7 m15 S hd;generalize bB L [str "policy",str "set"] p=U at *;generalize bV L U.2=V at *;generalize bB L dK V.2=H at *;generalize bW L H.2=W at *;generalize eI L qY W.2=p5 at *;generalize iL L L.length [] p5=X at *;generalize eI L yH X.2=p7 at *;generalize gO L p7=r8 at *;rw[vU,JU] at I;rw[show dK=[⟨#[100,101,110,121,111,118,101,114]⟩,⟨#[112,101,114,109,105,116,111,118,101,114]⟩,⟨#[102,105,114,115,116]⟩,⟨#[111,110,108,121]⟩,⟨#[100,101,110,121,117,110,108,101,115,115]⟩,⟨#[112,101,114,109,105,116,117,110,108,101,115,115]⟩] from by kernel_rfl] at J;rw[SY] at O;rw[SZ] at N;have ao:(U.1==2)=false:=bN.2 Q;clear Q
 dsimp only;go_enter func74,ntmps74;have HK:=aA (dD.refl w.heap.size g w);go_wp2_with fail;refine(I.o _ _ _ (HP.o.alloc.alloc.alloc) (nG _ _ _ _ _ qs rfl)).mono ?_;rintro e w1 ⟨rfl,k,f⟩;obtain⟨j,i,l,HK,HP⟩:=gG (aG (aF (aF (aM _ _ _ qs) (aB _ _)) (aB _ _)) f qo:w1.heap[w.heap.size]? =some (.cells wF 38 (0,0))) (aG (aF (aM _ _ _ qs) (aB _ _)) f qo:w1.heap[w.heap.size+1]? =some (.cells wF 38 (0,0))) (aG (aM _ _ _ qs) f qo:w1.heap[w.heap.size+2]? =some (.cells #[.string ⟨#[112,111,108,105,99,121]⟩,.string ⟨#[115,101,116]⟩] 9 (0,0))) (HK.o.alloc.alloc.alloc.aDk f) k;clear k f;have bf:=aE j.o;have bp:=aE i.o;have ar:=aE l.o;have bz:=HP.o.lt;clear I;obtain⟨⟨o,q,r,s,t,v,x⟩,y,z,A,B,C,D,E⟩:=bL i.o;go_wp2_with fail;refine(R.o _ ((HP.o.set qo))).mono ?_;rintro e w2 ⟨rfl,k,f⟩;obtain⟨j,i,l,HK,HP⟩:=gG (aG (bG (j.o) qo) f qo) (aG (Se (i.o) _) f qo) (aG (bG (l.o) qo) f qo) ((HK.o.set qo).aDk f) k;clear k f o q r s t v x y z A B C D E;have bg:=aE j.o;have bq:=aE i.o;have au:=aE l.o;have b0:=HP.o.lt;clear R;obtain⟨⟨o,q,r,s,t,v,x⟩,y,z,A,B,C,D,E⟩:=bL i.o;go_wp2_with fail;refine(J.o _ _ _ ((HP.o.set qo).alloc) (nG _ _ _ _ _ qs rfl)).mono ?_;rintro e Z ⟨rfl,k,f⟩;obtain⟨j,i,l,m,HK,HP⟩:=hD6 (aG (aF (bG (j.o) qo) (aB _ _)) f qo) (aG (aF (Sd (i.o) _) (aB _ _)) f qo) (aG (aF (bG (l.o) qo) (aB _ _)) f qo) (aG (aM _ _ _ qs) f qo:Z.heap[w2.heap.size]? =some (.cells alW 9 (0,0))) ((HK.o.set qo).alloc.aDk f) k;clear k f o q r s t v x y z A B C D E;have bh:=aE j.o;have br:=aE i.o;have av:=aE l.o;have a6:=aE m.o
 have b1:=HP.o.lt;clear J;obtain⟨⟨o,q,r,s,t,v,x⟩,y,z,A,B,C,D,E⟩:=bL i.o;go_wp2_with fail;refine(P.o _ ((HP.o.set qo))).mono ?_;rintro e w4 ⟨Y,rfl,F,k,f⟩;obtain⟨ta,tc,rfl,tl⟩:=F.slice;obtain⟨j,i,l,m,HK,HP⟩:=hD6 (aG (bG (j.o) qo) f qo) (aG (Sf (i.o) _) f qo) (aG (bG (l.o) qo) f qo) (aG (bG (m.o) qo) f qo) ((HK.o.set qo).aDk f) k;clear k f o q r s t v x y z A B C D E;have bj:=aE j.o;have bs:=aE i.o;have aw:=aE l.o;have a7:=aE m.o;have b2:=HP.o.lt;have HSt:=aA (aI.more aT (aI.inb aT F) (ok':=fun b=>w.heap.size<b/\b≠w.heap.size+1) (fun b hb=>by have h1:=hb.1;(try simp only[World.setCell,Array.size_modify] at h1);have h3:Z.heap.size<=b:=h1;exact⟨by show w.heap.size<b;omega,by show b≠w.heap.size+1;omega⟩));clear F;clear P;obtain⟨⟨o,q,r,s,t,v,x⟩,y,z,A,B,C,D,E⟩:=bL i.o;go_wp2_with fail;refine(O.o _ ((HP.o.set qo))).mono ?_;rintro e w5 ⟨rfl,k,f⟩;obtain⟨j,i,l,m,HK,HP⟩:=hD6 (aG (bG (j.o) qo) f qo) (aG (JX (i.o) _) f qo) (aG (bG (l.o) qo) f qo) (aG (bG (m.o) qo) f qo) ((HK.o.set qo).aDk f) k;have HSt:=aA (aI.aDk aT (aI.set aT (HSt.o) qh) f qh);clear k f o q r s t v x y z A B C D E;have bk:=aE j.o;have bt:=aE i.o;have ax:=aE l.o;have a8:=aE m.o;have b3:=HP.o.lt;clear O;obtain⟨⟨o,q,r,s,t,v,x⟩,y,z,A,B,C,D,E⟩:=bL i.o;go_wp2_with fail;refine(K.o _ (HP.o)).mono ?_;rintro e w6 ⟨Y,rfl,F,k,f⟩;obtain⟨ba,bc,rfl,bl⟩:=F.slice;obtain⟨j,i,l,m,HK,HP⟩:=hD6 (aG (j.o) f qo) (aG (i.o) f qo) (aG (l.o) f qo) (aG (m.o) f qo) (HK.o.aDk f) k
 have HSt:=aA (aI.aDk aT (HSt.o) f qh);clear k f o q r s t v x y z A B C D E;have bm:=aE j.o;have bu:=aE i.o;have ay:=aE l.o;have bb:=aE m.o;have b4:=HP.o.lt;have G:=aA (aI.more bP (aI.inb bP F) (ok':=fun b=>w.heap.size<b/\b≠w.heap.size+1) (fun b hb=>by have h1:=hb.1;(try simp only[World.setCell,Array.size_modify] at h1);have h3:w5.heap.size<=b:=h1;exact⟨by show w.heap.size<b;omega,by show b≠w.heap.size+1;omega⟩));clear F;clear K;obtain⟨⟨o,q,r,s,t,v,x⟩,y,z,A,B,C,D,E⟩:=bL i.o;go_wp2_with fail;refine(N.o _ ((HP.o.set qo))).mono ?_;rintro e w7 ⟨rfl,k,f⟩;obtain⟨j,i,l,m,HK,HP⟩:=hD6 (aG (bG (j.o) qo) f qo) (aG (aAh (i.o) _) f qo) (aG (bG (l.o) qo) f qo) (aG (bG (m.o) qo) f qo) ((HK.o.set qo).aDk f) k;have HSt:=aA (aI.aDk aT (aI.set aT (HSt.o) qh) f qh);have G:=aA (aI.aDk bP (aI.set bP (G.o) qh) f qh);clear k f o q r s t v x y z A B C D E;have bn:=aE j.o;have bw:=aE i.o;have az:=aE l.o;have bd:=aE m.o;have b5:=HP.o.lt;clear N;go_wp2_with fail;refine(M.o _ (HP.o)).mono ?_;rintro e w8 ⟨Y,rfl,F,k,f⟩;obtain⟨oa,oc,rfl,ol⟩:=F.slice;obtain⟨j,i,l,m,HK,HP⟩:=hD6 (aG (j.o) f qo) (aG (i.o) f qo) (aG (l.o) f qo) (aG (m.o) f qo) (HK.o.aDk f) k;have HSt:=aA (aI.aDk aT (HSt.o) f qh);have G:=aA (aI.aDk bP (G.o) f qh);clear k f
 have bo:=aE j.o;have bx:=aE i.o;have a1:=aE l.o;have be:=aE m.o;have b6:=HP.o.lt;have HSo:=aA (aI.more aQ (aI.inb aQ F) (ok':=fun b=>w.heap.size<b/\b≠w.heap.size+1) (fun b hb=>by have h1:=hb.1;(try simp only[World.setCell,Array.size_modify] at h1);have h3:w7.heap.size<=b:=h1;exact⟨by show w.heap.size<b;omega,by show b≠w.heap.size+1;omega⟩));clear F;clear M;obtain⟨⟨o,q,r,s,t,v,x⟩,y,z,A,B,C,D,E⟩:=bL i.o;obtain⟨⟨R0,R1,R2,R3,R4,R5,R6⟩,ag,ah,ai,aj,ak,al,an⟩:=bL j.o;go_wp2;refine bR (.agg #[.string V.1,.bool false,.int .i64 H.1,.slice ta W.1.length tc,.slice ba X.1.length bc,.slice none 0 0,.slice oa r8.1.length oc]) ?_;have ae:=aa.o;have ad:dK.length=6:=rfl;rw[ad] at ae;refine⟨_,_,_,_,rfl,⟨lT ab.o (by unfold cV;omega),by unfold bO;show _<=H.1/\H.1<=_;omega,?_,?_,?_,?_⟩,?_,?_⟩
 .exact QAP
 .exact aI.more bP (aI.set bP (aI.set bP (aI.set bP (aI.set bP (aI.set bP (aI.set bP (aI.set bP (aI.set bP (G.o) qh) qh) qh) qh) qh) qh) qh) qh) (fun b hb=>by have:=hb.1;show w.heap.size<=b;omega)
 .exact aI.nil
 .exact QAQ
 .exact QCw
 .exact QCn
theorem KW{L:List Tok}(T:Toks L)(M:AU L):∀n,n<=3->Yt L n
 |0,hn=>fun d a p g w hp b h=>by
  have e:Pw L 0:=fun d a p g w hp b h=>Jm T M d (by simpa using a) hp b g w h
  by_cases c:(bB L [str "policy",str "set"] p).1=2
  .exact GL (n:=0) qo T e d a hp b g w h c
  .exact BU (n:=0) qo T d a hp b g w h c
 |n+1,hn=>fun d a p g w hp b h=>by
  have e:Pw L (n+1):=fun d a p g w hp b h=>Jn T M (n:=n) qo (KW T M n qo) d (by rw[a];omega) hp b g w h
  by_cases c:(bB L [str "policy",str "set"] p).1=2
  .exact GL hn T e d a hp b g w h c
  .exact BU hn T d a hp b g w h c
theorem Yu{p:Prop}(h:p:=by
 go_enter func267,ntmps267;go_wp2;go_ret;exact⟨rfl,rfl⟩):p:=h
theorem GM(a:At)(d:CC a)(w:World):Calls prog 284 #[oI a] w (aP (.bool (yI a)) w):=by
 unfold aP oI yI;have c:=aA (fun w=>oR a.name (by have:=d.2;unfold cV at this;unfold maxLen;omega) w);generalize eN a.name=b at *;go_enter func284,ntmps284;go_wp2_with (go_at_call 61;refine(c.o _).mono ?_;rintro e w' ⟨rfl,rfl⟩)
 all_goals go_returns
 all_goals exact⟨bM (by rw[Bool.eq_iff_iff];simp[*]<;>(intros;omega)),by go_grown⟩
theorem VG(n:Nat)(w:World):Calls prog 267 #[.int .i64 n] w (fun e w'=>e=.returned (.int .i64 (oH n))/\w=w'):=by
 unfold oH;by_cases h0:n=0
 .rw[iP h0];have d:((n:Int)==0)=true:=bQ.2 qo;clear h0;exact Yu
 .rw[iN h0];have d:((n:Int)==0)=false:=bN.2 qo;by_cases h8:8<n
  .rw[iP h8];have d8:decide ((n:Int) > 8)=true:=dX qo;clear h0 h8;exact Yu
  .rw[iN h8];have d8:decide ((n:Int) > 8)=false:=dF qo;clear h0 h8;exact Yu
theorem VH(m:Ma)(g:tT m)(w:World):Calls prog 283 #[kQ m] w (aP (.bool (sQ m)) w):=by
 unfold aP kQ sQ;have a:=aA (fun w=>GM m.aDs g.1 w);have j:=aA (fun w=>nL m.val.1 m.val.2.1 m.val.2.2 (by have:=g.2.2.2.2;unfold cV at this;unfold maxLen;omega) w);unfold aP oI at a;unfold lF at j;generalize yI m.aDs=b at *;have e:aU m.val=aU (m.val.1,m.val.2.1,m.val.2.2):=rfl;rw[e];generalize aU (m.val.1,m.val.2.1,m.val.2.2)=c at *;clear e g;obtain⟨q,o⟩:=xE (w.alloc (.cells (JY m) 281));have l:=aA (aM w (.cells (JY m) 281) _ rfl);clear o;go_enter func283,ntmps283;go_wp2_with fail;refine(a.o _).mono ?_;rintro e w1 ⟨rfl,f⟩;have i:=qK l f;have d:=aA (aC (aB w _) f);obtain⟨⟨r,s,t,v,x,y,z⟩,_⟩:=bL i.o;have p:=aE i.o;clear f a
 cases b
 .go_wp2;go_returns;exact⟨rfl,d.o⟩
 .go_wp2_with (go_at_call 64;refine(j.o _).mono ?_;rintro e w2 ⟨rfl,k⟩;have n:=qB d k;clear k)
  all_goals go_returns
  all_goals first
   |exact⟨bM (by rw[Bool.eq_iff_iff];simp[*]<;>(intros;omega)),n.o⟩
   |exact⟨bM (by rw[Bool.eq_iff_iff];simp[*]<;>(intros;omega)),d.o⟩
theorem Te{p:Prop}(h:p:=by
 go_wp2;go_roundw
 case rel=>exact⟨k+1,qo,by go_num,HR2,HB2⟩
 case measure=>simp[intOf];omega):p:=h
theorem Tf{p:Prop}(h:p:=by
 have hk1:¬(k:Int)<(l.length:Int):=qo;obtain rfl:k=l.length:=qo;have HE:=aA (Jq HR.o);clear HR;go_wp2;go_returns;exact⟨by rw[HE.o];rfl,HB.o⟩):p:=h
theorem KX{α:Type}(f:α->Int)(l:List α)(k:Nat)(a:k<l.length):gI f (l.drop k)=if f l[k]≠0 then f l[k] else gI f (l.drop (k+1)):=by
 rw[List.drop_eq_getElem_cons a];rfl
theorem xM{α:Type}{f:α->Int}{l:List α}{k:Nat}{R:Int}(a:k<l.length)(h:gI f (l.drop k)=R)(h1:f l[k]≠0):R=f l[k]:=by
 rw[<-h,KX f l k a,iP h1]
theorem AW{α:Type}{f:α->Int}{l:List α}{k:Nat}{R:Int}(b:k<l.length)(h:gI f (l.drop k)=R)(h1:f l[k]=0):gI f (l.drop (k+1))=R:=by
 rw[<-h,KX f l k b,iN (fun a=>a h1)]
theorem Jq{α:Type}{f:α->Int}{l:List α}{R:Int}(h:gI f (l.drop l.length)=R):R=0:=by
 rw[<-h,List.drop_length];rfl
theorem Jr{ok:nP}(v:Value)(l:List Ma)(w:World)(h:aI rN w ok v l):Calls prog 268 #[v] w (aP (.int .i64 (rI l)) w):=by
 obtain⟨a,c,rfl,I⟩:=h.slice;have y:=aA h;clear h;unfold aP rI;have o:=aA (VG l.length w);by_cases h0:oH l.length≠0
 .rw[iP h0];have d:(oH l.length != 0)=true:=bne_iff_ne.2 h0;clear h0;generalize oH l.length=F at *;go_enter func268,ntmps268;go_wp2_with fail;refine o.o.mono ?_;rintro e w1 ⟨rfl,rfl⟩;exact GD
 rw[iN h0];have h0:oH l.length=0:=by simpa using h0
 rw[h0] at o;clear h0;obtain⟨res,q⟩:=xE (gI (fun m=>if sQ m then 0 else 1) l);rw[<-q];have HR0:Hid (gI (fun m=>if sQ m then 0 else 1) (l.drop 0)=res):=aA (by rw[List.drop_zero];exact q.symm);clear q;go_enter func268,ntmps268;go_wp2_with fail;refine o.o.mono ?_;rintro e w1 ⟨rfl,rfl⟩;clear o;go_wp2;go_loopw [14] (fun i wr=>∃k:Nat,k<=l.length/\i=.int .i64 k/\Hid (gI (fun m=>if sQ m then 0 else 1) (l.drop k)=res)/\Hid (Below w.heap.size w wr)) (fun i _=>l.length - (intOf i).toNat)
 case atStart=>exact ZV
 case round=>
  clear HR0;obtain⟨k,H,rfl,HR,HB⟩:=hrel;by_cases p:k<l.length
  .have hk1:(k:Int)<(l.length:Int):=qo;obtain⟨b,off,r,rfl,_,G,⟨rfl,t⟩,s⟩:=aI.at eR (y.o.on eR HB.o) p qe;obtain⟨x,z,A,B,C,D,E⟩:=BO s;rw[Nat.add_zero] at x;have n:=aA (fun h1=>xM p HR.o h1);have j:=aA (fun h1=>AW p HR.o h1);have f:=aA (fun w=>VH l[k] t w);unfold aP kQ at f;clear s HR t;generalize l[k]=m at *
   cases hm:sQ m
   .rw[hm] at f n;have HE:=aA (n.o qe);clear n j hm;go_wp2_with fail;refine(f.o _).mono ?_;rintro e w2 ⟨rfl,g⟩;have HB2:=aA (aC (aC HB.o (aB _ _)) g);clear g f;exact GF
   .rw[hm] at f j;have HR2:=aA (j.o qe);clear n j hm;go_wp2_with fail;refine(f.o _).mono ?_;rintro e w2 ⟨rfl,g⟩;have HB2:=aA (aC (aC HB.o (aB _ _)) g);clear g f x z A B C D E;exact Te
  .exact Tf
theorem Js{ok:nP}(v:Value)(l:List (List Ma))(w:World)(h:aI (rows rN) w ok v l):Calls prog 249 #[v] w (aP (.int .i64 (rJ l)) w):=by
 obtain⟨a,c,rfl,C⟩:=h.slice;have y:=aA h;clear h;unfold aP rJ;have j:=aA (VG l.length w);by_cases h0:oH l.length≠0
 .rw[iP h0];have d:(oH l.length != 0)=true:=bne_iff_ne.2 h0;clear h0;generalize oH l.length=z at *;go_enter func249,ntmps249;go_wp2_with fail;refine j.o.mono ?_;rintro e w1 ⟨rfl,rfl⟩;exact GD
 rw[iN h0];have h0:oH l.length=0:=by simpa using h0
 rw[h0] at j;clear h0;obtain⟨res,q⟩:=xE (gI rI l);rw[<-q];have HR0:Hid (gI rI (l.drop 0)=res):=aA (by rw[List.drop_zero];exact q.symm);clear q;go_enter func249,ntmps249;go_wp2_with fail;refine j.o.mono ?_;rintro e w1 ⟨rfl,rfl⟩;clear j;go_wp2;go_loopw [15] (fun i wr=>∃k:Nat,k<=l.length/\i=.int .i64 k/\Hid (gI rI (l.drop k)=res)/\Hid (Below w.heap.size w wr)) (fun i _=>l.length - (intOf i).toNat)
 case atStart=>exact ZV
 case round=>
  clear HR0;obtain⟨k,B,rfl,HR,HB⟩:=hrel;by_cases p:k<l.length
  .have hk1:(k:Int)<(l.length:Int):=qo;obtain⟨b,off,r,rfl,_,A,⟨D,rfl,s⟩,x⟩:=aI.at dP (y.o.on dP HB.o) p qe;obtain⟨E,F,rfl,_⟩:=s.slice;have t:=x 0 _ rfl;rw[Nat.add_zero,Nat.mul_one] at t;have o:=aA (fun h1=>xM p HR.o h1);have n:=aA (fun h1=>AW p HR.o h1);have f:=aA (Jr _ l[k] wr s);unfold aP at f;clear x HR s;by_cases he:rI l[k]=0
   .have HR2:=aA (n.o he);rw[he] at f;clear o n he;generalize l[k]=m at *;go_wp2_with fail;refine f.o.mono ?_;rintro e w2 ⟨rfl,g⟩;have HB2:=qB HB g;clear g f t;exact Te
   .have HE:=aA (o.o he);have d2:(rI l[k] != 0)=true:=bne_iff_ne.2 he;clear o n he;generalize l[k]=m at *;generalize rI m=em at *;go_wp2_with fail;refine f.o.mono ?_;rintro e w2 ⟨rfl,g⟩;have HB2:=qB HB g;clear g f t;exact GF
  .exact Tf
theorem KY{ok:nP}(v:Value)(l:List (List (List Ma)))(w:World)(h:aI (rows (rows rN)) w ok v l):Calls prog 225 #[v] w (aP (.int .i64 (eZ l)) w):=by
 obtain⟨a,c,rfl,A⟩:=h.slice;have x:=aA h;clear h;unfold aP eZ;by_cases h0:8<l.length
 .rw[iP h0];have d:decide ((l.length:Int) > 8)=true:=dX qo;clear h0;go_enter func225,ntmps225;exact GD
 rw[iN h0];have d:decide ((l.length:Int) > 8)=false:=dF qo;clear h0;obtain⟨res,p⟩:=xE (gI rJ l);rw[<-p];have HR0:Hid (gI rJ (l.drop 0)=res):=aA (by rw[List.drop_zero];exact p.symm);clear p;go_enter func225,ntmps225;go_wp2;go_loopw [11] (fun i wr=>∃k:Nat,k<=l.length/\i=.int .i64 k/\Hid (gI rJ (l.drop k)=res)/\Hid (Below w.heap.size w wr)) (fun i _=>l.length - (intOf i).toNat)
 case atStart=>exact ZV
 case round=>
  clear HR0;obtain⟨k,z,rfl,HR,HB⟩:=hrel;by_cases o:k<l.length
  .have hk1:(k:Int)<(l.length:Int):=qo;obtain⟨b,off,r,rfl,_,y,⟨B,rfl,q⟩,t⟩:=aI.at aT (x.o.on aT HB.o) o qe;obtain⟨C,D,rfl,_⟩:=q.slice;have s:=t 0 _ rfl;rw[Nat.add_zero,Nat.mul_one] at s;have n:=aA (fun h1=>xM o HR.o h1);have j:=aA (fun h1=>AW o HR.o h1);have f:=aA (Js _ l[k] wr q);unfold aP at f;clear t HR q;by_cases he:rJ l[k]=0
   .have HR2:=aA (j.o he);rw[he] at f;clear n j he;generalize l[k]=m at *;go_wp2_with fail;refine f.o.mono ?_;rintro e w2 ⟨rfl,g⟩;have HB2:=qB HB g;clear g f s;exact Te
   .have HE:=aA (n.o he);have d2:(rJ l[k] != 0)=true:=bne_iff_ne.2 he;clear n j he;generalize l[k]=m at *;generalize rJ m=em at *;go_wp2_with fail;refine f.o.mono ?_;rintro e w2 ⟨rfl,g⟩;have HB2:=qB HB g;clear g f s;exact GF
  .exact Tf
theorem Jt{p:Prop}(h:p:=by
 go_wp2;go_returns;exact⟨by rw[HE.o];rfl,aC HB.o (aB _ _)⟩):p:=h
theorem VI{ok:nP}(v:Value)(l:List Ob)(w:World)(h:aI jX w ok v l):Calls prog 226 #[v] w (aP (.int .i64 (lE l)) w):=by
 obtain⟨a,c,rfl,N⟩:=h.slice;have D:=aA h;clear h;unfold aP lE;by_cases h0:8<l.length
 .rw[iP h0];have d:decide ((l.length:Int) > 8)=true:=dX qo;clear h0;go_enter func226,ntmps226;exact GD
 rw[iN h0];have d:decide ((l.length:Int) > 8)=false:=dF qo;clear h0;obtain⟨f,t⟩:∃f:Ob->Int,f=(fun o:Ob=>if (1<=o.on/\o.on<=2)/\(1<=o.aC3/\o.aC3<=4)/\eN o.arg=true then (0:Int) else 1):=⟨_,rfl⟩;rw[<-t];have j:Hid (∀o:Ob,¬((1<=o.on/\o.on<=2)/\(1<=o.aC3/\o.aC3<=4)/\eN o.arg=true)->f o=1):=aA (fun o h=>by rw[t];exact iN h);have n:Hid (∀o:Ob,((1<=o.on/\o.on<=2)/\(1<=o.aC3/\o.aC3<=4)/\eN o.arg=true)->f o=0):=aA (fun o h=>by rw[t];exact iP h);clear t;obtain⟨res,z⟩:=xE (gI f l);rw[<-z];have HR0:Hid (gI f (l.drop 0)=res):=aA (by rw[List.drop_zero];exact z.symm);clear z;go_enter func226,ntmps226;go_wp2;go_loopw [10] (fun i wr=>∃k:Nat,k<=l.length/\i=.int .i64 k/\Hid (gI f (l.drop k)=res)/\Hid (Below w.heap.size w wr)) (fun i _=>l.length - (intOf i).toNat)
 case atStart=>exact ZV
 case round=>
  clear HR0;obtain⟨k,M,rfl,HR,HB⟩:=hrel;by_cases y:k<l.length
  .have hk1:(k:Int)<(l.length:Int):=qo;obtain⟨b,off,r,rfl,_,L,⟨rfl,B⟩,A⟩:=aI.at aQ (D.o.on aQ HB.o) y qe;obtain⟨C,J,K⟩:=cR3 A;rw[Nat.add_zero] at C;have m:=aA (fun h1=>xM y HR.o h1);have p:=aA (fun h1=>AW y HR.o h1);have s:=aA (fun w=>oR l[k].arg (by have:=B.2.2;unfold cV at this;unfold maxLen;omega) w);clear A HR B;generalize l[k]=o at *;by_cases h1:o.on<1
   .have HE:Hid (res=1):=aA (by
     have g:=j.o o (by rintro⟨x,a2,_⟩;omega);rw[m.o (by rw[g];decide),g])
    clear m p n j;have E:decide (o.on<1)=true:=dX qo;clear h1;exact Jt
   have E:decide (o.on<1)=false:=dF qo;by_cases h2:2<o.on
   .have HE:Hid (res=1):=aA (by
     have g:=j.o o (by rintro⟨x,a2,_⟩;omega);rw[m.o (by rw[g];decide),g])
    clear m p n j;have F:decide (o.on > 2)=true:=dX qo;clear h2;exact Jt
   have F:decide (o.on > 2)=false:=dF qo;by_cases h3:o.aC3<1
   .have HE:Hid (res=1):=aA (by
     have g:=j.o o (by rintro⟨x,a2,_⟩;omega);rw[m.o (by rw[g];decide),g])
    clear m p n j;have G:decide (o.aC3<1)=true:=dX qo;clear h3;exact Jt
   have G:decide (o.aC3<1)=false:=dF qo;by_cases h4:4<o.aC3
   .have HE:Hid (res=1):=aA (by
     have g:=j.o o (by rintro⟨x,a2,_⟩;omega);rw[m.o (by rw[g];decide),g])
    clear m p n j;have H:decide (o.aC3 > 4)=true:=dX qo;clear h4;exact Jt
   have H:decide (o.aC3 > 4)=false:=dF qo
   cases q:eN o.arg
   .have I:=q;rw[q] at s;have HE:Hid (res=1):=aA (by
     have g:=j.o o (by rintro⟨_,_,a3⟩;rw[q] at a3;cases a3);rw[m.o (by rw[g];decide),g])
    clear m p n j;clear q I h1 h2 h3 h4;go_wp2_with fail;refine(s.o _).mono ?_;rintro e w2 ⟨rfl,rfl⟩;clear s;exact Jt
   .rw[q] at s;have HR2:=aA (p.o (n.o o ⟨⟨qo,qo⟩,⟨qo,qo⟩,q⟩));have HB2:=qB HB (aB _ (.cells #[.int .i64 o.on,.int .i64 o.aC3,.string o.arg] 188));clear q h1 h2 h3 h4 m p n j;go_wp2_with fail;refine(s.o _).mono ?_;rintro e w2 ⟨rfl,rfl⟩;clear s C J K;exact Te
  .exact Tf
theorem QDf{p:Prop}(h:p:=by
 go_wp2
 all_goals go_returns
 all_goals exact⟨bM (by rw[Bool.eq_iff_iff];simp[*]),HB.o⟩):p:=h
theorem GP(b:bY):b=ByteArray.empty↔b.toList=[]:=by
 rw[Lib.toList_data];constructor
 .rintro rfl;rfl
 .intro h
  apply ByteArray.ext
  apply Array.ext'
  rw[h];rfl
theorem VJ(v:V3):(decide (v=bF))=decide (v.1=0/\v.2.1=0/\v.2.2.toList=[]):=by
 obtain⟨a,b,c⟩:=v;rw[Bool.eq_iff_iff];simp[bF,<-GP]
theorem VK(v:At):(decide (v=uL))=decide (v.cat=0/\v.name.toList=[]/\v.aDB=false):=by
 obtain⟨a,b,c⟩:=v;rw[Bool.eq_iff_iff];simp[uL,<-GP]
theorem Ec(n:No)(i:oQ n)(w:World):Calls prog 270 #[jN n] w (aP (.bool (qR n)) w):=by
 unfold aP jN qR;have f:=aA (fun w=>GM n.aDs i.2.2 w);have g:=aA (fun w=>nL n.val.1 n.val.2.1 n.val.2.2 (by have:=i.2.1.2.2;unfold cV at this;unfold maxLen;omega) w);unfold aP oI at f;unfold lF at g;generalize yI n.aDs=b at *;have e:aU n.val=aU (n.val.1,n.val.2.1,n.val.2.2):=rfl;rw[e];generalize aU (n.val.1,n.val.2.1,n.val.2.2)=c at *;clear e i;have j:=aA (aM w (.cells (iT n) 294) _ rfl);have k:=aA (aB w (.cells (iT n) 294));by_cases h1:n.op=1
 .rw[iP h1];have d1:(n.op==1)=true:=bQ.2 h1;clear h1 f;rw[VK];go_enter func270,ntmps270;go_wp2_with fail;refine(g.o _).mono ?_;rintro e w1 ⟨rfl,a⟩;have d:=qK j a;have HB:=qB k a;obtain⟨⟨m,o,p,q,r,s,t⟩,_⟩:=bL d.o;have l:=aE d.o;clear a g
  cases c
  .go_wp2;go_returns;exact⟨rfl,HB.o⟩
  .exact QDf
 rw[iN h1];have d1:(n.op==1)=false:=bN.2 h1;clear h1 g;by_cases h2:n.op=2
 .rw[iP h2];have d2:(n.op==2)=true:=bQ.2 h2;clear h2;rw[VJ];go_enter func270,ntmps270;go_wp2_with fail;refine(f.o _).mono ?_;rintro e w1 ⟨rfl,a⟩;have d:=qK j a;have HB:=qB k a;obtain⟨⟨m,o,p,q,r,s,t⟩,_⟩:=bL d.o;have l:=aE d.o;clear a f
  cases b
  .go_wp2;go_returns;exact⟨rfl,HB.o⟩
  .exact QDf
 rw[iN h2];have d2:(n.op==2)=false:=bN.2 h2;clear h2 f;rw[VJ,VK];go_enter func270,ntmps270;go_wp2
 all_goals go_returns
 all_goals exact⟨bM (by rw[Bool.eq_iff_iff];simp[*]),aB _ _⟩
theorem QBG{p:Prop}(h:p:=by
 have B0:=aA (aM w (.cells #[.bool true] 4) _ rfl);have HB0:=aA (aB w (.cells #[.bool true] 4));go_enter func269,ntmps269;go_wp2;go_returns;exact⟨_,rfl,HB0.o,xN (l:=[true]) B0.o (lR _) rfl rfl qe⟩):p:=h
theorem Tg{p:Prop}(h:p:=by
 go_enter func269,ntmps269;go_wp2;go_returns;exact⟨_,rfl,Below.refl _ _,aI.nil⟩):p:=h
theorem GQ(w:World)(ok:nP):∀l:List Bool,aZ (DH w ok) (l.map Value.bool) l
 | []=>rfl
 |x::l=>⟨[.bool x],l.map Value.bool,rfl,⟨rfl,trivial⟩,GQ w ok l⟩
theorem xN{w:World}{ok:nP}{b:Nat}{cs:Array Value}{e:TypeId}{fr:Nat×Nat}{l:List Bool}{c n:Nat}(d:w.heap[b]? =some (.cells cs e fr))(j:ok b)(f:cs.toList=l.map Value.bool)(g:l.length=n)(k:n<=1000000):aI DH w ok (.slice (some ⟨b,0,none⟩) n c) l:=by
 refine⟨_,c,l.map Value.bool,by rw[g],fun _=>⟨b,0,rfl,j,fun i x a=> ?_⟩,GQ w ok l,qo⟩;rw[<-f] at a;simp only[World.cell?,d,Nat.zero_add];simpa using a
def DT(op:Int)(w:World)(e:Ending)(w':World):Prop:=
 ∃v,e=.returned (.tuple #[v,.bool (mR op).isSome])/\Below w.heap.size w w'/\aI DH w' (fun b=>w.heap.size<=b) v ((mR op).getD [])
theorem Ju(op:Int)(w:World):Calls prog 269 #[.int .i64 op] w (DT op w):=by
 unfold DT mR;by_cases h1:op=1
 .subst h1;rw[iP (.inl rfl)];exact Tg
 by_cases h2:op=2
 .subst h2;rw[iP (.inr rfl)];exact Tg
 rw[iN qo];have d1:(op==1)=false:=bN.2 h1;have d2:(op==2)=false:=bN.2 h2;clear h1 h2;by_cases h1:op=3
 .subst h1;rw[iP (.inl rfl)];exact QBG
 by_cases h2:op=4
 .subst h2;rw[iP (.inr rfl)];exact QBG
 rw[iN qo];have d3:(op==3)=false:=bN.2 h1;have d4:(op==4)=false:=bN.2 h2;clear h1 h2;by_cases h1:op=5
 .subst h1;rw[iP rfl];have B0:=aA (aM w (.cells #[.bool true,.bool false] 4) _ rfl);have HB0:=aA (aB w (.cells #[.bool true,.bool false] 4));go_enter func269,ntmps269;go_wp2;go_returns;exact⟨_,rfl,HB0.o,xN (l:=[true,false]) B0.o (lR _) rfl rfl qe⟩
 rw[iN h1];have d5:(op==5)=false:=bN.2 h1;clear h1;by_cases h1:op=11
 .subst h1;rw[iP rfl];have B0:=aA (aM w (.cells #[.bool false] 4) _ rfl);have HB0:=aA (aB w (.cells #[.bool false] 4));go_enter func269,ntmps269;go_wp2;go_returns;exact⟨_,rfl,HB0.o,xN (l:=[false]) B0.o (lR _) rfl rfl qe⟩
 rw[iN h1];have d11:(op==11)=false:=bN.2 h1;clear h1;by_cases h1:6<=op
 .have d6:decide (op ≥ 6)=true:=dX h1;by_cases h2:op<=13
  .rw[iP ⟨h1,h2⟩];have d7:decide (op<=13)=true:=dX h2;clear h1 h2;have B0:=aA (aM w (.cells #[.bool false,.bool false] 4) _ rfl);have HB0:=aA (aB w (.cells #[.bool false,.bool false] 4));go_enter func269,ntmps269;go_wp2;go_returns;exact⟨_,rfl,HB0.o,xN (l:=[false,false]) B0.o (lR _) rfl rfl qe⟩
  .rw[iN (fun h=>h2 h.2)];have d7:decide (op<=13)=false:=dF h2;clear h1 h2;exact Tg
 .rw[iN (fun h=>h1 h.1)];have d6:decide (op ≥ 6)=false:=dF h1;clear h1;exact Tg
theorem Yv{p:Prop}(h:p:=by
 go_wp2;go_returns;rw[HE.o];exact⟨_,rfl,HB.o.mono hbase,aN.nil⟩):p:=h
theorem Th:dY prog 347 4 1 1:=fS (z:= .bool false) underlying347 (by kernel_rfl) rfl qe
def JD(l:List Bool)(n:No)(base:Nat)(w:World)(e:Ending)(w':World):Prop:=
 ∃v,e=.returned (.tuple #[v,.bool (lC l n).isSome])/\Below base w w'/\aN DH 1 4 w' base (fun _=>True) v ((lC l n).getD [])
theorem Ed{l m:List Bool}{a k:Nat}(h1:a+k<l.length)(h2:k<m.length):(l.drop (a+k)=m.drop k)↔(l[a+k]=m[k]/\l.drop (a+(k+1))=m.drop (k+1)):=by
 rw[List.drop_eq_getElem_cons h1,List.drop_eq_getElem_cons h2,List.cons.injEq];rfl
theorem Ee{l:List Bool}{n:No}(h:mR n.op=none):lC l n=none:=by unfold lC;rw[h]
theorem DU{l m:List Bool}{n:No}(h:mR n.op=some m)(h2:¬(qR n=true/\m.length<=l.length/\l.drop (l.length - m.length)=m)):lC l n=none:=by unfold lC;rw[h];exact iN h2
theorem Ef{l m:List Bool}{n:No}{q:Nat}(a:l.length=q+m.length)(h:mR n.op=some m)(h1:qR n=true)(h2:l.drop q=m):lC l n=some (l.take q++[decide (n.op=2)]):=by
 have e:l.length - m.length=q:=qo;unfold lC;rw[h];simp only[e];exact iP ⟨h1,qo,h2⟩
theorem JE(v:Value)(l:List Bool)(n:No)(ag:oQ n)(base:Nat)(w:World)(h:aN DH 1 4 w base (fun _=>True) v l)(au:l.length<=100)(hbase:base<=w.heap.size):Calls prog 250 #[v,jN n] w (JD l n base w):=by
 obtain⟨a,c,rfl⟩:=h.slice;have G:=aA h;have N:=aA (fun w=>Ju n.op w);have K:=aA (fun w=>Ec n ag w);unfold DT at N;unfold aP jN at K;unfold JD jN;have B0:=aA (aM w (.cells (iT n) 294) _ rfl);have ad:=aA (aB w (.cells (iT n) 294));clear h;go_enter func250,ntmps250;go_wp2_with fail;refine(N.o _).mono ?_;rintro e w1 ⟨wv,rfl,o,ab⟩;obtain⟨C,HB,y⟩:=bA (aF B0.o o) (aC ad.o o) ab;obtain⟨⟨x0,x1,x2,x3,x4,x5,x6⟩,_⟩:=bL C.o;have hz:=aE C.o;clear o ab N
 cases hw:mR n.op with
 |none=>
  have HE:=aA (Ee (l:=l) hw);simp only[Option.isSome_none];clear hw;exact Yv
 |some m=>
  simp only[Option.isSome_some];rw[hw] at y;simp only[Option.getD_some] at y;go_wp2_with fail;refine(K.o _).mono ?_;rintro e w2 ⟨rfl,o⟩;obtain⟨HB,D,y⟩:=bA (aC HB.o o) (aF C.o o) (y.o.on jR o);clear x0 x1 x2 x3 x4 x5 x6 hz C o K;obtain⟨⟨x0,x1,x2,x3,x4,x5,x6⟩,_⟩:=bL D.o;have hz:=aE D.o;obtain⟨wa,wc,rfl,av⟩:=y.o.slice
  cases B:qR n with
  |false=>
   have HE:=aA (DU (l:=l) hw (fun h=>by rw[B] at h;exact absurd h.1 qe));clear hw B;exact Yv
  |true=>
   by_cases hlen:l.length<m.length
   .have HE:=aA (DU (l:=l) hw (fun h=>by omega));have d:decide ((l.length:Int)<(m.length:Int))=true:=dX qo;clear hw B;exact Yv
   obtain⟨q,Q⟩:∃q,l.length=q+m.length:=⟨l.length - m.length,qo⟩;have d:decide ((l.length:Int)<(m.length:Int))=false:=dF qo;have d2:IntKind.i64.wrap ((l.length:Int) - (m.length:Int))=(q:Int):=by rw[IntWalk.i64_in _ qo];omega
   have E:=aA (fun (hd:¬(l.drop q=m))=>DU (l:=l) (n:=n) hw (fun h=>by rw[show l.length - m.length=q by omega] at h;exact hd h.2.2));have H:=aA (Ef Q hw B);have f:=aA Q;clear hw B Q;obtain⟨res,R⟩:∃res:Prop,res=(l.drop q=m):=⟨_,rfl⟩;rw[<-R] at E H;have af:Hid (aI DH w2 (fun _=>True) (.slice a l.length c) l):=aA ((G.o.on jR HB.o).sl qo _ (fun _ _ _=>trivial) (fun _ _ _=>trivial) jR);have V:Hid ((l.drop (q+0)=m.drop 0)=res):=aA (by rw[Nat.add_zero,List.drop_zero];exact R.symm);clear R;have d3:wrap64 ((l.length:Int) - (m.length:Int))=(q:Int):=by have:=f.o;rw[IntWalk.wrap64_in _ qo];omega
   go_wp2;go_loopw [38] (fun i wr=>∃k:Nat,k<=m.length/\i=.int .i64 k/\Hid ((l.drop (q+k)=m.drop k)=res)/\wr=w2) (fun i _=>m.length - (intOf i).toNat)
   case atStart=>exact⟨0,Nat.zero_le _,rfl,V,rfl⟩
   case round=>
    clear V;obtain⟨k,hk,rfl,x,rfl⟩:=hrel;by_cases Z:k<m.length
    .have ai:(k:Int)<(m.length:Int):=qo;obtain⟨j,hj⟩:=xE (q+k);have ah:j<l.length:=qA f.o;have aq:(j:Int)<(l.length:Int):=qo;have ao:(0:Int)<=(j:Int):=qo;have e1:IntKind.i64.wrap ((q:Int)+(k:Int))=(j:Int):=by rw[IntWalk.i64_in _ qo];omega
     obtain⟨b,off,r,rfl,_,ak,⟨rfl,_⟩,X⟩:=aI.at jR y.o Z qe;have y0:=X 0 _ rfl;rw[Nat.add_zero,Nat.mul_one] at y0;obtain⟨b',aw,r,rfl,_,al,⟨rfl,_⟩,Y⟩:=aI.at jR af.o ah qe;have z0:=Y 0 _ rfl;rw[Nat.add_zero,Nat.mul_one] at z0;have s:=aA (Ed (l:=l) (m:=m) (a:=q) (k:=k) (qA f.o) Z);have U:=aA (fun (hx:q+k<l.length)=>(by subst hj;rfl:l[q+k]=l[j]));clear X Y;rw[U.o _] at s;clear U;generalize l[j]=u at *;generalize m[k]=t at *;by_cases S:u=t
     .subst S;have ae:Hid ((l.drop (q+(k+1))=m.drop (k+1))=res):=aA (by rw[<-x.o];exact propext ⟨fun h=>s.o.2 ⟨rfl,h⟩,fun h=>(s.o.1 h).2⟩);clear s x hj
      cases u
      all_goals
       go_wp2;go_roundw
       case rel=>exact⟨k+1,qo,by go_num,ae,by trivial⟩
       case measure=>simp[intOf];omega
     .have HE:=aA (E.o (by rw[<-x.o];exact fun h=>S (s.o.1 h).1));clear s x hj E H
      cases u<;>cases t
      all_goals first
       |exact absurd rfl S
       |(go_wp2
         go_returns;rw[HE.o];exact⟨_,rfl,HB.o.mono hbase,aN.nil⟩)
    .have ai:¬(k:Int)<(m.length:Int):=qo;have hr:res:=by rw[<-x.o,List.drop_eq_nil_of_le (qA f.o),List.drop_eq_nil_of_le qo]
     have HE:=aA (H.o hr);clear x hr E H;obtain⟨aj,ar,an⟩:=G.o.place;have HC:=aA ((G.o.on jR HB.o).cut jR q (qA f.o));have g:=aA ((aB wr (.cells #[.bool (n.op==2)] 4)).drew);have W:Hid ((wr.alloc (.cells #[.bool (n.op==2)] 4)).drew.heap[wr.heap.size]? =some (.cells #[.bool (n.op==2)] 4 (0,0))):=aA (aM wr (.cells #[.bool (n.op==2)] 4) _ rfl);have F:=aA (HC.o.on jR g.o);have I:base<=wr.heap.size:=lT hbase HB.o.size;have aa:(l.take q).length=q:=by have:=f.o;rw[List.length_take];omega
     have q0:(0:Int)<=(q:Int):=qo;have q1:(q:Int)<=(c:Int):=qA f.o;have q2:(q:Int)<=(l.length:Int):=qA f.o;have T:=aA ((aC HB.o g.o).mono hbase)
     rcases aj with ⟨rfl,rfl⟩|⟨ga,rfl⟩
     .obtain rfl:l=[]:=List.eq_nil_of_length_eq_zero qo;obtain rfl:q=0:=by have:=f.o;simp only[List.length_nil] at this;omega
      have z:=qK D g.o;have M:Hid (some w.heap.size≠(Value.slice none 0 0).ownBlock):=aA (fun h=>(by cases (show some w.heap.size=none from h)));go_wp2;go_region_held3 (fun w'=>w'.cell? ⟨w.heap.size,0,none⟩=some (.int .i64 n.op)) (first|go_keep|assumption) ((refine iZ Th jR (by rfl) (.tmp 54) (.tmp 58) (by rfl) _ (([]:List Bool).take 0) (by rfl) F.o wr.heap.size 1 _ _ _ (n.op==2) (by rfl) W.o ⟨rfl,trivial⟩ (by rw[aa];omega) qe (lT I g.o.size) ?_;intro l' P A' c' w9 A p O;have L:=aA A;have J:=aA (F.o.below T.o p (lR _) (lT I g.o.size));have x9:=(bL ((p.block w.heap.size (aE z.o) M.o).trans z.o)).1.1;clear A p O))
      go_wp2;go_returns;rw[HE.o,<-MY,<-P.o];exact⟨_,rfl,J.o,L.o⟩
     .have z:=qK D g.o;have M:Hid (some w.heap.size≠(Value.slice (some ⟨ga,0,none⟩) q c).ownBlock):=aA (fun h=>qA ((G.o.lt w.heap.size h.symm).2));go_wp2;go_region_held3 (fun w'=>w'.cell? ⟨w.heap.size,0,none⟩=some (.int .i64 n.op)) (first|go_keep|assumption) ((refine iZ Th jR (by rfl) (.tmp 54) (.tmp 58) (by rfl) _ (l.take q) (by rfl) F.o wr.heap.size 1 _ _ _ (n.op==2) (by rfl) W.o ⟨rfl,trivial⟩ (by rw[aa];omega) qe (lT I g.o.size) ?_;intro l' P A' c' w9 A p O;have L:=aA A;have J:=aA (F.o.below T.o p (lR _) (lT I g.o.size));have x9:=(bL ((p.block w.heap.size (aE z.o) M.o).trans z.o)).1.1;clear A p O))
      go_wp2;go_returns;rw[HE.o,<-MY,<-P.o];exact⟨_,rfl,J.o,L.o⟩
end Go.Proofs.YtkglnboglppgnaaGreatDoor
