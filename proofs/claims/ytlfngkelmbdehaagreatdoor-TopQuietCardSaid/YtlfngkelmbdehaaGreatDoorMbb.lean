/- Lemmas. -/
import Derived.Test.YtlfngkelmbdehaaGreatDoorMba
namespace Go.Proofs.YtlfngkelmbdehaaGreatDoor
open Go.RowKit
set_option linter.unusedVariables false
set_option linter.unusedSimpArgs false
set_option maxHeartbeats 16000000
open _root_.Go.Proofs.Tryz
set_option maxRecDepth 20000
theorem Dg(l:lU)(h:(bX l).1.aCF=6):(bX l).1.str.size=1:=by
 unfold bX at h ⊢
 repeat' split at h
 all_goals first
  |(exfalso;simp at h;done)
  |(simp[*,cG];done)
theorem xR:∀(f:Nat) (l:lU) (k:Nat) (out:List Tok),(∀t∈out,t.aCF=6->t.str.size=1)->(jH f l k out).2.1=0->AI (jH f l k out).1
 |0,l,k,out,_,h=>absurd h (by simp[jH])
 |f+1,[],k,out,ha,_=>by
  simp only[jH];intro t a b
  rcases List.mem_append.1 a with a|a
  .exact ha t a b
  .rw[List.mem_singleton] at a;subst a;exact absurd b qs
 |f+1,c::r,k,out,ha,h=>by
  unfold jH at h ⊢;dsimp only at h ⊢;by_cases h1:c.toNat=32\/c.toNat=10
  .rw[iP h1] at h ⊢;exact xR f r (k+1) out ha h
  .rw[iN h1] at h ⊢;by_cases h2:(bX (c::r)).2=0
   .rw[iP h2] at h;exact absurd h qs
   .rw[iN h2] at h ⊢;refine xR f _ _ _ (fun t a b=> ?_) h
    rcases List.mem_append.1 a with a|a
    .exact ha t a b
    .rw[List.mem_singleton] at a;subst a;exact Dg (c::r) b
theorem Is{l:lU}(h:(jL l).2.1=0):AI (jL l).1:=by
 unfold jL at h ⊢;by_cases h1:4096<l.length
 .rw[iP h1] at h;exact absurd h qs
 .rw[iN h1] at h ⊢;exact xR _ _ _ _ qs h
theorem QCu{p:Prop}(h:p:=by
 exact((((((((HP.o.set qo).set qo).set qo).set qo).set qo).set qo).set qo).set qo)):p:=h
theorem QCl{p:Prop}(h:p:=by
 exact cV.end (((((((((HK.o.set qo).set qo).set qo).set qo).set qo).set qo).set qo).set qo))):p:=h
theorem QAP{p:Prop}(h:p:=by
 exact aH.more aO (aH.set aO (aH.set aO (aH.set aO (aH.set aO (aH.set aO (aH.set aO (aH.set aO (aH.set aO (HSo.o) qh) qh) qh) qh) qh) qh) qh) qh) (fun b hb=>by have:=hb.1;show w.heap.size<=b;omega)):p:=h
theorem QAO{p:Prop}(h:p:=by
 exact aH.more aS (aH.set aS (aH.set aS (aH.set aS (aH.set aS (aH.set aS (aH.set aS (aH.set aS (aH.set aS (HSt.o) qh) qh) qh) qh) qh) qh) qh) qh) (fun b hb=>by have:=hb.1;show w.heap.size<=b;omega)):p:=h
def uX(L:List Tok):Nat->PS->List Po×PS
 |0,p=>gL L (fun q=>(lX,q)) true L.length [] p
 |n+1,p=>gL L (cO L n) false L.length [] p
theorem Dh(L:List Tok)(n:Nat)(p:PS)(h:(aZ L [str "policy",str "set"] p).1=2):cO L n p=
 (.mk (bS L (aZ L [str "policy",str "set"] p).2).1 true (aZ L dD (bS L (aZ L [str "policy",str "set"] p).2).2).1 (bU L (aZ L dD (bS L (aZ L [str "policy",str "set"] p).2).2).2).1 [] (uX L n (eG L qV (bU L (aZ L dD (bS L (aZ L [str "policy",str "set"] p).2).2).2).2)).1 (gK L (eG L xY (uX L n (eG L qV (bU L (aZ L dD (bS L (aZ L [str "policy",str "set"] p).2).2).2).2)).2)).1,
  (gK L (eG L xY (uX L n (eG L qV (bU L (aZ L dD (bS L (aZ L [str "policy",str "set"] p).2).2).2).2)).2)).2):=by
 cases n with
 |zero=>
  unfold cO uX;dsimp only;rw[dX h,iP rfl]
 |succ n=>
  unfold cO uX;dsimp only;rw[dX h,iP rfl]
theorem UO(L:List Tok)(n:Nat)(p:PS)(h:(aZ L [str "policy",str "set"] p).1≠2):cO L n p=
 (.mk (bS L (aZ L [str "policy",str "set"] p).2).1 false (aZ L dD (bS L (aZ L [str "policy",str "set"] p).2).2).1 (bU L (aZ L dD (bS L (aZ L [str "policy",str "set"] p).2).2).2).1 (iH L L.length [] (eG L qV (bU L (aZ L dD (bS L (aZ L [str "policy",str "set"] p).2).2).2).2)).1 [] (gK L (eG L xY (iH L L.length [] (eG L qV (bU L (aZ L dD (bS L (aZ L [str "policy",str "set"] p).2).2).2).2)).2)).1,
  (gK L (eG L xY (iH L L.length [] (eG L qV (bU L (aZ L dD (bS L (aZ L [str "policy",str "set"] p).2).2).2).2)).2)).2):=by
 cases n with
 |zero=>
  unfold cO;dsimp only;rw[dF h,iN qe]
 |succ n=>
  unfold cO;dsimp only;rw[dF h,iN qe]
theorem Iu{L:List Tok}(T:Toks L)(n:Nat){p:PS}(h:p.at_<L.length):dI L p (uX L n p).2:=by
 cases n with
 |zero=>exact qO (one:=fun q=>(lX,q)) (fun h=>dI.refl h) true L.length [] h
 |succ n=>exact qO (one:=cO L n) (rN T n) false L.length [] h
def Ow(L:List Tok)(n:Nat):Prop:=∀(d:Int),d=5 - (n:Int)->∀p g w,p.at_<L.length->p.aCH<=64->PW L w g p->
 Calls prog 150 #[.pointer (some ⟨g,0,none⟩),.int .i64 d] w (iI (pX n) L g w (uX L n p).1 (uX L n p).2)
abbrev alW:Array Value:=#[.string ⟨#[100,101,110,121,111,118,101,114]⟩,.string ⟨#[112,101,114,109,105,116,111,118,101,114]⟩,.string ⟨#[102,105,114,115,116]⟩,.string ⟨#[111,110,108,121]⟩,.string ⟨#[100,101,110,121,117,110,108,101,115,115]⟩,.string ⟨#[112,101,114,109,105,116,117,110,108,101,115,115]⟩]
theorem GA{L:List Tok}{n:Nat}(hn:n<=3)(T:Toks L)(S:Ow L n){p:PS}(d:Int)(hd:d=4 - (n:Int))(hp:p.at_<L.length)(af:p.aCH<=64)(g:Nat)(w:World)(h:PW L w g p)(Q:(aZ L [str "policy",str "set"] p).1=2):
 Calls prog 90 #[.pointer (some ⟨g,0,none⟩),.int .i64 d] w (wF n L g w (cO L n p).1 (cO L n p).2):=by
 have hL:=T.len;have aq:=h.lt;have HP:=aA h;have m1:=dP T [str "policy",str "set"] hp;have m2:=jC T m1.lt;have m3:=dP T dD m2.lt;have m4:=lM T m3.lt;have m5:=fY T qV m4.lt;have m15:=m1.trans (m2.trans (m3.trans (m4.trans m5)));have U:=m15.aDp af;have m6:=Iu T n m5.lt;have m7:=fY T xY m6.lt;have I:=aA (fun a c w h hw=>mZ T [str "policy",str "set"] a c 2 rfl qe hp g w h hw);have R:=aA (fun w h=>qZ T m1.lt g w h);have J:=aA (fun a c w h hw=>mZ T dD a c 6 rfl qe m2.lt g w h hw);have P:=aA (fun w h=>tJ T m3.lt g w h);have O:=aA (fun w h=>mB T qV m4.lt g w h);have K:=aA (fun w h=>S (d+1) qo (eG L qV (bU L (aZ L dD (bS L (aZ L [str "policy",str "set"] p).2).2).2).2) g w m5.lt U h);have N:=aA (fun w h=>mB T xY m6.lt g w h);have M:=aA (fun w h=>uV T m7.lt g w h);have ab:=aA (rD T m1.lt);have aa:=aA (nK (L:=L) dD (bS L (aZ L [str "policy",str "set"] p).2).2);have d1:1<=d:=qo;have d2:d<=4:=qo;rw[Dh L n p Q];unfold wF;unfold iI at P M K;clear h m1 m2 m3 m4 m5 m6 m7 m15 U S hd;generalize aZ L [str "policy",str "set"] p=V at *;generalize bS L V.2=W at *;generalize aZ L dD W.2=H at *;generalize bU L H.2=X at *;generalize eG L qV X.2=p5 at *;generalize uX L n p5=Y at *;generalize eG L xY Y.2=p7 at *;generalize gK L p7=r8 at *;rw[vO,JL] at I;rw[show dD=[⟨#[100,101,110,121,111,118,101,114]⟩,⟨#[112,101,114,109,105,116,111,118,101,114]⟩,⟨#[102,105,114,115,116]⟩,⟨#[111,110,108,121]⟩,⟨#[100,101,110,121,117,110,108,101,115,115]⟩,⟨#[112,101,114,109,105,116,117,110,108,101,115,115]⟩] from by kernel_rfl] at J
 rw[SH] at O;rw[SI] at N;have ao:(V.1==2)=true:=bQ.2 Q;clear Q;dsimp only;go_enter func90,ntmps90;have HK:=aA (cV.refl w.heap.size g w);go_wp2_with fail;refine(I.o _ _ _ (HP.o.alloc.alloc.alloc) (nA _ _ _ _ _ qs rfl)).mono ?_;rintro e w1 ⟨rfl,k,f⟩;obtain⟨j,i,l,HK,HP⟩:=gB (aF (aE (aE (aK _ _ _ qs) (aB _ _)) (aB _ _)) f qo:w1.heap[w.heap.size]? =some (.cells vV 38 (0,0))) (aF (aE (aK _ _ _ qs) (aB _ _)) f qo:w1.heap[w.heap.size+1]? =some (.cells vV 38 (0,0))) (aF (aK _ _ _ qs) f qo:w1.heap[w.heap.size+2]? =some (.cells #[.string ⟨#[112,111,108,105,99,121]⟩,.string ⟨#[115,101,116]⟩] 9 (0,0))) (HK.o.alloc.alloc.alloc.aCV f) k;clear k f;have bf:=aD j.o;have bp:=aD i.o;have ar:=aD l.o;have bz:=HP.o.lt;clear I;obtain⟨⟨o,q,r,s,t,v,x⟩,y,z,A,B,C,D,E⟩:=bI i.o;go_wp2_with fail;refine(R.o _ ((HP.o.set qo))).mono ?_;rintro e w2 ⟨rfl,k,f⟩;obtain⟨j,i,l,HK,HP⟩:=gB (aF (bE (j.o) qo) f qo) (aF (Rg (i.o) _) f qo) (aF (bE (l.o) qo) f qo) ((HK.o.set qo).aCV f) k;clear k f o q r s t v x y z A B C D E;have bg:=aD j.o;have bq:=aD i.o;have au:=aD l.o;have b0:=HP.o.lt;clear R;obtain⟨⟨o,q,r,s,t,v,x⟩,y,z,A,B,C,D,E⟩:=bI i.o;go_wp2_with fail;refine(J.o _ _ _ ((HP.o.set qo).alloc) (nA _ _ _ _ _ qs rfl)).mono ?_;rintro e w3 ⟨rfl,k,f⟩;obtain⟨j,i,l,m,HK,HP⟩:=hD6 (aF (aE (bE (j.o) qo) (aB _ _)) f qo) (aF (aE (Rf (i.o) _) (aB _ _)) f qo) (aF (aE (bE (l.o) qo) (aB _ _)) f qo) (aF (aK _ _ _ qs) f qo:w3.heap[w2.heap.size]? =some (.cells alW 9 (0,0))) ((HK.o.set qo).alloc.aCV f) k;clear k f o q r s t v x y z A B C D E
 have bh:=aD j.o;have br:=aD i.o;have av:=aD l.o;have a6:=aD m.o;have b1:=HP.o.lt;clear J;obtain⟨⟨o,q,r,s,t,v,x⟩,y,z,A,B,C,D,E⟩:=bI i.o;go_wp2_with fail;refine(P.o _ ((HP.o.set qo))).mono ?_;rintro e w4 ⟨Z,rfl,F,k,f⟩;obtain⟨ta,tc,rfl,tl⟩:=F.slice;obtain⟨j,i,l,m,HK,HP⟩:=hD6 (aF (bE (j.o) qo) f qo) (aF (Rh (i.o) _) f qo) (aF (bE (l.o) qo) f qo) (aF (bE (m.o) qo) f qo) ((HK.o.set qo).aCV f) k;clear k f o q r s t v x y z A B C D E;have bj:=aD j.o;have bs:=aD i.o;have aw:=aD l.o;have a7:=aD m.o;have b2:=HP.o.lt;have HSt:=aA (aH.more aS (aH.inb aS F) (ok':=fun b=>w.heap.size<b/\b≠w.heap.size+1) (fun b hb=>by have h1:=hb.1;(try simp only[World.setCell,Array.size_modify] at h1);have h3:w3.heap.size<=b:=h1;exact⟨by show w.heap.size<b;omega,by show b≠w.heap.size+1;omega⟩));clear F;clear P;obtain⟨⟨o,q,r,s,t,v,x⟩,y,z,A,B,C,D,E⟩:=bI i.o;go_wp2_with fail;refine(O.o _ ((HP.o.set qo))).mono ?_;rintro e w5 ⟨rfl,k,f⟩;obtain⟨j,i,l,m,HK,HP⟩:=hD6 (aF (bE (j.o) qo) f qo) (aF (JO (i.o) _) f qo) (aF (bE (l.o) qo) f qo) (aF (bE (m.o) qo) f qo) ((HK.o.set qo).aCV f) k;have HSt:=aA (aH.aCV aS (aH.set aS (HSt.o) qh) f qh);clear k f o q r s t v x y z A B C D E;have bk:=aD j.o;have bt:=aD i.o;have ax:=aD l.o;have a8:=aD m.o;have b3:=HP.o.lt;clear O;obtain⟨⟨o,q,r,s,t,v,x⟩,y,z,A,B,C,D,E⟩:=bI i.o;go_wp2_with fail;refine(K.o _ (HP.o)).mono ?_;rintro e w6 ⟨Z,rfl,F,k,f⟩;obtain⟨ba,bc,rfl,bl⟩:=F.slice;obtain⟨j,i,l,m,HK,HP⟩:=hD6 (aF (j.o) f qo) (aF (i.o) f qo) (aF (l.o) f qo) (aF (m.o) f qo) (HK.o.aCV f) k
 have HSt:=aA (aH.aCV aS (HSt.o) f qh);clear k f o q r s t v x y z A B C D E;have bm:=aD j.o;have bu:=aD i.o;have ay:=aD l.o;have bb:=aD m.o;have b4:=HP.o.lt;have G:=aA (aH.more (bB n) (aH.inb (bB n) F) (ok':=fun b=>w.heap.size<b/\b≠w.heap.size+1) (fun b hb=>by have h1:=hb.1;(try simp only[World.setCell,Array.size_modify] at h1);have h3:w5.heap.size<=b:=h1;exact⟨by show w.heap.size<b;omega,by show b≠w.heap.size+1;omega⟩));clear F;clear K;obtain⟨⟨o,q,r,s,t,v,x⟩,y,z,A,B,C,D,E⟩:=bI i.o;go_wp2_with fail;refine(N.o _ ((HP.o.set qo))).mono ?_;rintro e w7 ⟨rfl,k,f⟩;obtain⟨j,i,l,m,HK,HP⟩:=hD6 (aF (bE (j.o) qo) f qo) (aF (Zl (i.o) _) f qo) (aF (bE (l.o) qo) f qo) (aF (bE (m.o) qo) f qo) ((HK.o.set qo).aCV f) k;have HSt:=aA (aH.aCV aS (aH.set aS (HSt.o) qh) f qh);have G:=aA (aH.aCV (bB n) (aH.set (bB n) (G.o) qh) f qh);clear k f o q r s t v x y z A B C D E;have bn:=aD j.o;have bw:=aD i.o;have az:=aD l.o;have bd:=aD m.o;have b5:=HP.o.lt;clear N;go_wp2_with fail;refine(M.o _ (HP.o)).mono ?_;rintro e w8 ⟨Z,rfl,F,k,f⟩;obtain⟨oa,oc,rfl,ol⟩:=F.slice;obtain⟨j,i,l,m,HK,HP⟩:=hD6 (aF (j.o) f qo) (aF (i.o) f qo) (aF (l.o) f qo) (aF (m.o) f qo) (HK.o.aCV f) k;have HSt:=aA (aH.aCV aS (HSt.o) f qh);have G:=aA (aH.aCV (bB n) (G.o) f qh)
 clear k f;have bo:=aD j.o;have bx:=aD i.o;have a1:=aD l.o;have be:=aD m.o;have b6:=HP.o.lt;have HSo:=aA (aH.more aO (aH.inb aO F) (ok':=fun b=>w.heap.size<b/\b≠w.heap.size+1) (fun b hb=>by have h1:=hb.1;(try simp only[World.setCell,Array.size_modify] at h1);have h3:w7.heap.size<=b:=h1;exact⟨by show w.heap.size<b;omega,by show b≠w.heap.size+1;omega⟩));clear F;clear M;obtain⟨⟨o,q,r,s,t,v,x⟩,y,z,A,B,C,D,E⟩:=bI i.o;obtain⟨⟨R0,R1,R2,R3,R4,R5,R6⟩,ag,ah,ai,aj,ak,al,an⟩:=bI j.o;go_wp2;refine bR (.agg #[.string W.1,.bool true,.int .i64 H.1,.slice ta X.1.length tc,.slice none 0 0,.slice ba Y.1.length bc,.slice oa r8.1.length oc]) ?_;have ae:=aa.o;have ad:dD.length=6:=rfl;rw[ad] at ae;refine⟨_,_,_,_,rfl,⟨lT ab.o (by unfold cP;omega),by unfold bK;show _<=H.1/\H.1<=_;omega,?_,?_,?_,?_⟩,?_,?_⟩
 .exact QAO
 .exact aH.nil
 .exact aH.more (bB n) (aH.set (bB n) (aH.set (bB n) (aH.set (bB n) (aH.set (bB n) (aH.set (bB n) (aH.set (bB n) (aH.set (bB n) (aH.set (bB n) (G.o) qh) qh) qh) qh) qh) qh) qh) qh) (fun b hb=>by have:=hb.1;show w.heap.size<=b;omega)
 .exact QAP
 .exact QCu
 .exact QCl
theorem BH{L:List Tok}{n:Nat}(hn:n<=3)(T:Toks L){p:PS}(d:Int)(hd:d=4 - (n:Int))(hp:p.at_<L.length)(af:p.aCH<=64)(g:Nat)(w:World)(h:PW L w g p)(Q:(aZ L [str "policy",str "set"] p).1≠2):
 Calls prog 90 #[.pointer (some ⟨g,0,none⟩),.int .i64 d] w (wF n L g w (cO L n p).1 (cO L n p).2):=by
 have hL:=T.len;have aq:=h.lt;have HP:=aA h;have m1:=dP T [str "policy",str "set"] hp;have m2:=jC T m1.lt;have m3:=dP T dD m2.lt;have m4:=lM T m3.lt;have m5:=fY T qV m4.lt;have m15:=m1.trans (m2.trans (m3.trans (m4.trans m5)));have S:=m15.aDp af;have m6:=sP T L.length [] m5.lt;have m7:=fY T xY m6.lt;have I:=aA (fun a c w h hw=>mZ T [str "policy",str "set"] a c 2 rfl qe hp g w h hw);have R:=aA (fun w h=>qZ T m1.lt g w h);have J:=aA (fun a c w h hw=>mZ T dD a c 6 rfl qe m2.lt g w h hw);have P:=aA (fun w h=>tJ T m3.lt g w h);have O:=aA (fun w h=>mB T qV m4.lt g w h);have K:=aA (fun w h=>Ov T m5.lt S g w h);have N:=aA (fun w h=>mB T xY m6.lt g w h);have M:=aA (fun w h=>uV T m7.lt g w h);have ab:=aA (rD T m1.lt);have aa:=aA (nK (L:=L) dD (bS L (aZ L [str "policy",str "set"] p).2).2);have d1:1<=d:=qo;have d2:d<=4:=qo;rw[UO L n p Q];unfold wF;unfold iI at P M K;clear h m1 m2 m3 m4 m5 m6 m7 m15 S hd;generalize aZ L [str "policy",str "set"] p=U at *;generalize bS L U.2=V at *;generalize aZ L dD V.2=H at *;generalize bU L H.2=W at *;generalize eG L qV W.2=p5 at *;generalize iH L L.length [] p5=X at *;generalize eG L xY X.2=p7 at *;generalize gK L p7=r8 at *;rw[vO,JL] at I;rw[show dD=[⟨#[100,101,110,121,111,118,101,114]⟩,⟨#[112,101,114,109,105,116,111,118,101,114]⟩,⟨#[102,105,114,115,116]⟩,⟨#[111,110,108,121]⟩,⟨#[100,101,110,121,117,110,108,101,115,115]⟩,⟨#[112,101,114,109,105,116,117,110,108,101,115,115]⟩] from by kernel_rfl] at J;rw[SH] at O;rw[SI] at N;have ao:(U.1==2)=false:=bN.2 Q;clear Q
 dsimp only;go_enter func90,ntmps90;have HK:=aA (cV.refl w.heap.size g w);go_wp2_with fail;refine(I.o _ _ _ (HP.o.alloc.alloc.alloc) (nA _ _ _ _ _ qs rfl)).mono ?_;rintro e w1 ⟨rfl,k,f⟩;obtain⟨j,i,l,HK,HP⟩:=gB (aF (aE (aE (aK _ _ _ qs) (aB _ _)) (aB _ _)) f qo:w1.heap[w.heap.size]? =some (.cells vV 38 (0,0))) (aF (aE (aK _ _ _ qs) (aB _ _)) f qo:w1.heap[w.heap.size+1]? =some (.cells vV 38 (0,0))) (aF (aK _ _ _ qs) f qo:w1.heap[w.heap.size+2]? =some (.cells #[.string ⟨#[112,111,108,105,99,121]⟩,.string ⟨#[115,101,116]⟩] 9 (0,0))) (HK.o.alloc.alloc.alloc.aCV f) k;clear k f;have bf:=aD j.o;have bp:=aD i.o;have ar:=aD l.o;have bz:=HP.o.lt;clear I;obtain⟨⟨o,q,r,s,t,v,x⟩,y,z,A,B,C,D,E⟩:=bI i.o;go_wp2_with fail;refine(R.o _ ((HP.o.set qo))).mono ?_;rintro e w2 ⟨rfl,k,f⟩;obtain⟨j,i,l,HK,HP⟩:=gB (aF (bE (j.o) qo) f qo) (aF (Rg (i.o) _) f qo) (aF (bE (l.o) qo) f qo) ((HK.o.set qo).aCV f) k;clear k f o q r s t v x y z A B C D E;have bg:=aD j.o;have bq:=aD i.o;have au:=aD l.o;have b0:=HP.o.lt;clear R;obtain⟨⟨o,q,r,s,t,v,x⟩,y,z,A,B,C,D,E⟩:=bI i.o;go_wp2_with fail;refine(J.o _ _ _ ((HP.o.set qo).alloc) (nA _ _ _ _ _ qs rfl)).mono ?_;rintro e Z ⟨rfl,k,f⟩;obtain⟨j,i,l,m,HK,HP⟩:=hD6 (aF (aE (bE (j.o) qo) (aB _ _)) f qo) (aF (aE (Rf (i.o) _) (aB _ _)) f qo) (aF (aE (bE (l.o) qo) (aB _ _)) f qo) (aF (aK _ _ _ qs) f qo:Z.heap[w2.heap.size]? =some (.cells alW 9 (0,0))) ((HK.o.set qo).alloc.aCV f) k;clear k f o q r s t v x y z A B C D E;have bh:=aD j.o;have br:=aD i.o;have av:=aD l.o;have a6:=aD m.o
 have b1:=HP.o.lt;clear J;obtain⟨⟨o,q,r,s,t,v,x⟩,y,z,A,B,C,D,E⟩:=bI i.o;go_wp2_with fail;refine(P.o _ ((HP.o.set qo))).mono ?_;rintro e w4 ⟨Y,rfl,F,k,f⟩;obtain⟨ta,tc,rfl,tl⟩:=F.slice;obtain⟨j,i,l,m,HK,HP⟩:=hD6 (aF (bE (j.o) qo) f qo) (aF (Rh (i.o) _) f qo) (aF (bE (l.o) qo) f qo) (aF (bE (m.o) qo) f qo) ((HK.o.set qo).aCV f) k;clear k f o q r s t v x y z A B C D E;have bj:=aD j.o;have bs:=aD i.o;have aw:=aD l.o;have a7:=aD m.o;have b2:=HP.o.lt;have HSt:=aA (aH.more aS (aH.inb aS F) (ok':=fun b=>w.heap.size<b/\b≠w.heap.size+1) (fun b hb=>by have h1:=hb.1;(try simp only[World.setCell,Array.size_modify] at h1);have h3:Z.heap.size<=b:=h1;exact⟨by show w.heap.size<b;omega,by show b≠w.heap.size+1;omega⟩));clear F;clear P;obtain⟨⟨o,q,r,s,t,v,x⟩,y,z,A,B,C,D,E⟩:=bI i.o;go_wp2_with fail;refine(O.o _ ((HP.o.set qo))).mono ?_;rintro e w5 ⟨rfl,k,f⟩;obtain⟨j,i,l,m,HK,HP⟩:=hD6 (aF (bE (j.o) qo) f qo) (aF (JO (i.o) _) f qo) (aF (bE (l.o) qo) f qo) (aF (bE (m.o) qo) f qo) ((HK.o.set qo).aCV f) k;have HSt:=aA (aH.aCV aS (aH.set aS (HSt.o) qh) f qh);clear k f o q r s t v x y z A B C D E;have bk:=aD j.o;have bt:=aD i.o;have ax:=aD l.o;have a8:=aD m.o;have b3:=HP.o.lt;clear O;obtain⟨⟨o,q,r,s,t,v,x⟩,y,z,A,B,C,D,E⟩:=bI i.o;go_wp2_with fail;refine(K.o _ (HP.o)).mono ?_;rintro e w6 ⟨Y,rfl,F,k,f⟩;obtain⟨ba,bc,rfl,bl⟩:=F.slice;obtain⟨j,i,l,m,HK,HP⟩:=hD6 (aF (j.o) f qo) (aF (i.o) f qo) (aF (l.o) f qo) (aF (m.o) f qo) (HK.o.aCV f) k
 have HSt:=aA (aH.aCV aS (HSt.o) f qh);clear k f o q r s t v x y z A B C D E;have bm:=aD j.o;have bu:=aD i.o;have ay:=aD l.o;have bb:=aD m.o;have b4:=HP.o.lt;have G:=aA (aH.more bM (aH.inb bM F) (ok':=fun b=>w.heap.size<b/\b≠w.heap.size+1) (fun b hb=>by have h1:=hb.1;(try simp only[World.setCell,Array.size_modify] at h1);have h3:w5.heap.size<=b:=h1;exact⟨by show w.heap.size<b;omega,by show b≠w.heap.size+1;omega⟩));clear F;clear K;obtain⟨⟨o,q,r,s,t,v,x⟩,y,z,A,B,C,D,E⟩:=bI i.o;go_wp2_with fail;refine(N.o _ ((HP.o.set qo))).mono ?_;rintro e w7 ⟨rfl,k,f⟩;obtain⟨j,i,l,m,HK,HP⟩:=hD6 (aF (bE (j.o) qo) f qo) (aF (Zk (i.o) _) f qo) (aF (bE (l.o) qo) f qo) (aF (bE (m.o) qo) f qo) ((HK.o.set qo).aCV f) k;have HSt:=aA (aH.aCV aS (aH.set aS (HSt.o) qh) f qh);have G:=aA (aH.aCV bM (aH.set bM (G.o) qh) f qh);clear k f o q r s t v x y z A B C D E;have bn:=aD j.o;have bw:=aD i.o;have az:=aD l.o;have bd:=aD m.o;have b5:=HP.o.lt;clear N;go_wp2_with fail;refine(M.o _ (HP.o)).mono ?_;rintro e w8 ⟨Y,rfl,F,k,f⟩;obtain⟨oa,oc,rfl,ol⟩:=F.slice;obtain⟨j,i,l,m,HK,HP⟩:=hD6 (aF (j.o) f qo) (aF (i.o) f qo) (aF (l.o) f qo) (aF (m.o) f qo) (HK.o.aCV f) k;have HSt:=aA (aH.aCV aS (HSt.o) f qh);have G:=aA (aH.aCV bM (G.o) f qh);clear k f
 have bo:=aD j.o;have bx:=aD i.o;have a1:=aD l.o;have be:=aD m.o;have b6:=HP.o.lt;have HSo:=aA (aH.more aO (aH.inb aO F) (ok':=fun b=>w.heap.size<b/\b≠w.heap.size+1) (fun b hb=>by have h1:=hb.1;(try simp only[World.setCell,Array.size_modify] at h1);have h3:w7.heap.size<=b:=h1;exact⟨by show w.heap.size<b;omega,by show b≠w.heap.size+1;omega⟩));clear F;clear M;obtain⟨⟨o,q,r,s,t,v,x⟩,y,z,A,B,C,D,E⟩:=bI i.o;obtain⟨⟨R0,R1,R2,R3,R4,R5,R6⟩,ag,ah,ai,aj,ak,al,an⟩:=bI j.o;go_wp2;refine bR (.agg #[.string V.1,.bool false,.int .i64 H.1,.slice ta W.1.length tc,.slice ba X.1.length bc,.slice none 0 0,.slice oa r8.1.length oc]) ?_;have ae:=aa.o;have ad:dD.length=6:=rfl;rw[ad] at ae;refine⟨_,_,_,_,rfl,⟨lT ab.o (by unfold cP;omega),by unfold bK;show _<=H.1/\H.1<=_;omega,?_,?_,?_,?_⟩,?_,?_⟩
 .exact QAO
 .exact aH.more bM (aH.set bM (aH.set bM (aH.set bM (aH.set bM (aH.set bM (aH.set bM (aH.set bM (aH.set bM (G.o) qh) qh) qh) qh) qh) qh) qh) qh) (fun b hb=>by have:=hb.1;show w.heap.size<=b;omega)
 .exact aH.nil
 .exact QAP
 .exact QCu
 .exact QCl
theorem KM{L:List Tok}(T:Toks L)(M:AI L):∀n,n<=3->Xw L n
 |0,hn=>fun d a p g w hp b h=>by
  have e:Ow L 0:=fun d a p g w hp b h=>Iq T M d (by simpa using a) hp b g w h
  by_cases c:(aZ L [str "policy",str "set"] p).1=2
  .exact GA (n:=0) qo T e d a hp b g w h c
  .exact BH (n:=0) qo T d a hp b g w h c
 |n+1,hn=>fun d a p g w hp b h=>by
  have e:Ow L (n+1):=fun d a p g w hp b h=>Ir T M (n:=n) qo (KM T M n qo) d (by rw[a];omega) hp b g w h
  by_cases c:(aZ L [str "policy",str "set"] p).1=2
  .exact GA hn T e d a hp b g w h c
  .exact BH hn T d a hp b g w h c
theorem Xx{p:Prop}(h:p:=by
 go_enter func265,ntmps265;go_wp2;go_ret;exact⟨rfl,rfl⟩):p:=h
theorem GB(a:At)(d:BO a)(w:World):Calls prog 282 #[oF a] w (aP (.bool (xZ a)) w):=by
 unfold aP oF xZ;have c:=aA (fun w=>oN a.name (by have:=d.2;unfold cP at this;unfold maxLen;omega) w);generalize eL a.name=b at *;go_enter func282,ntmps282;go_wp2_with (go_at_call 37;refine(c.o _).mono ?_;rintro e w' ⟨rfl,rfl⟩)
 all_goals go_returns
 all_goals exact⟨bH (by rw[Bool.eq_iff_iff];simp[*]<;>(intros;omega)),by go_grown⟩
theorem UP(n:Nat)(w:World):Calls prog 265 #[.int .i64 n] w (fun e w'=>e=.returned (.int .i64 (oE n))/\w=w'):=by
 unfold oE;by_cases h0:n=0
 .rw[iP h0];have d:((n:Int)==0)=true:=bQ.2 qo;clear h0;exact Xx
 .rw[iN h0];have d:((n:Int)==0)=false:=bN.2 qo;by_cases h8:8<n
  .rw[iP h8];have d8:decide ((n:Int) > 8)=true:=dX qo;clear h0 h8;exact Xx
  .rw[iN h8];have d8:decide ((n:Int) > 8)=false:=dF qo;clear h0 h8;exact Xx
theorem UQ(m:Ma)(g:tP m)(w:World):Calls prog 281 #[kL m] w (aP (.bool (sM m)) w):=by
 unfold aP kL sM;have a:=aA (fun w=>GB m.aC3 g.1 w);have j:=aA (fun w=>nG m.val.1 m.val.2.1 m.val.2.2 (by have:=g.2.2.2.2;unfold cP at this;unfold maxLen;omega) w);unfold aP oF at a;unfold lB at j;generalize xZ m.aC3=b at *;have e:aT m.val=aT (m.val.1,m.val.2.1,m.val.2.2):=rfl;rw[e];generalize aT (m.val.1,m.val.2.1,m.val.2.2)=c at *;clear e g;obtain⟨q,o⟩:=xE (w.alloc (.cells (JP m) 288));have l:=aA (aK w (.cells (JP m) 288) _ rfl);clear o;go_enter func281,ntmps281;go_wp2_with fail;refine(a.o _).mono ?_;rintro e w1 ⟨rfl,f⟩;have i:=qK l f;have d:=aA (aC (aB w _) f);obtain⟨⟨r,s,t,v,x,y,z⟩,_⟩:=bI i.o;have p:=aD i.o;clear f a
 cases b
 .go_wp2;go_returns;exact⟨rfl,d.o⟩
 .go_wp2_with (go_at_call 40;refine(j.o _).mono ?_;rintro e w2 ⟨rfl,k⟩;have n:=qB d k;clear k)
  all_goals go_returns
  all_goals first
   |exact⟨bH (by rw[Bool.eq_iff_iff];simp[*]<;>(intros;omega)),n.o⟩
   |exact⟨bH (by rw[Bool.eq_iff_iff];simp[*]<;>(intros;omega)),d.o⟩
theorem Sf{p:Prop}(h:p:=by
 go_wp2;go_roundw
 case rel=>exact⟨k+1,qo,by go_num,HR2,HB2⟩
 case measure=>simp[intOf];omega):p:=h
theorem Sg{p:Prop}(h:p:=by
 have hk1:¬(k:Int)<(l.length:Int):=qo;obtain rfl:k=l.length:=qo;have HE:=aA (Iv HR.o);clear HR;go_wp2;go_returns;exact⟨by rw[HE.o];rfl,HB.o⟩):p:=h
theorem KN{α:Type}(f:α->Int)(l:List α)(k:Nat)(a:k<l.length):gD f (l.drop k)=if f l[k]≠0 then f l[k] else gD f (l.drop (k+1)):=by
 rw[List.drop_eq_getElem_cons a];rfl
theorem xF{α:Type}{f:α->Int}{l:List α}{k:Nat}{R:Int}(a:k<l.length)(h:gD f (l.drop k)=R)(h1:f l[k]≠0):R=f l[k]:=by
 rw[<-h,KN f l k a,iP h1]
theorem AJ{α:Type}{f:α->Int}{l:List α}{k:Nat}{R:Int}(b:k<l.length)(h:gD f (l.drop k)=R)(h1:f l[k]=0):gD f (l.drop (k+1))=R:=by
 rw[<-h,KN f l k b,iN (fun a=>a h1)]
theorem Iv{α:Type}{f:α->Int}{l:List α}{R:Int}(h:gD f (l.drop l.length)=R):R=0:=by
 rw[<-h,List.drop_length];rfl
theorem Iw{ok:nP}(v:Value)(l:List Ma)(w:World)(h:aH rK w ok v l):Calls prog 266 #[v] w (aP (.int .i64 (rF l)) w):=by
 obtain⟨a,c,rfl,I⟩:=h.slice;have y:=aA h;clear h;unfold aP rF;have o:=aA (UP l.length w);by_cases h0:oE l.length≠0
 .rw[iP h0];have d:(oE l.length != 0)=true:=bne_iff_ne.2 h0;clear h0;generalize oE l.length=F at *;go_enter func266,ntmps266;go_wp2_with fail;refine o.o.mono ?_;rintro e w1 ⟨rfl,rfl⟩;exact FR
 rw[iN h0];have h0:oE l.length=0:=by simpa using h0
 rw[h0] at o;clear h0;obtain⟨res,q⟩:=xE (gD (fun m=>if sM m then 0 else 1) l);rw[<-q];have HR0:Hid (gD (fun m=>if sM m then 0 else 1) (l.drop 0)=res):=aA (by rw[List.drop_zero];exact q.symm);clear q;go_enter func266,ntmps266;go_wp2_with fail;refine o.o.mono ?_;rintro e w1 ⟨rfl,rfl⟩;clear o;go_wp2;go_loopw [14] (fun i wr=>∃k:Nat,k<=l.length/\i=.int .i64 k/\Hid (gD (fun m=>if sM m then 0 else 1) (l.drop k)=res)/\Hid (Below w.heap.size w wr)) (fun i _=>l.length - (intOf i).toNat)
 case atStart=>exact ZE
 case round=>
  clear HR0;obtain⟨k,H,rfl,HR,HB⟩:=hrel;by_cases p:k<l.length
  .have hk1:(k:Int)<(l.length:Int):=qo;obtain⟨b,off,r,rfl,_,G,⟨rfl,t⟩,s⟩:=aH.at eN (y.o.on eN HB.o) p qe;obtain⟨x,z,A,B,C,D,E⟩:=CA s;rw[Nat.add_zero] at x;have n:=aA (fun h1=>xF p HR.o h1);have j:=aA (fun h1=>AJ p HR.o h1);have f:=aA (fun w=>UQ l[k] t w);unfold aP kL at f;clear s HR t;generalize l[k]=m at *
   cases hm:sM m
   .rw[hm] at f n;have HE:=aA (n.o qe);clear n j hm;go_wp2_with fail;refine(f.o _).mono ?_;rintro e w2 ⟨rfl,g⟩;have HB2:=aA (aC (aC HB.o (aB _ _)) g);clear g f;exact FT
   .rw[hm] at f j;have HR2:=aA (j.o qe);clear n j hm;go_wp2_with fail;refine(f.o _).mono ?_;rintro e w2 ⟨rfl,g⟩;have HB2:=aA (aC (aC HB.o (aB _ _)) g);clear g f x z A B C D E;exact Sf
  .exact Sg
theorem Ix{ok:nP}(v:Value)(l:List (List Ma))(w:World)(h:aH (rows rK) w ok v l):Calls prog 247 #[v] w (aP (.int .i64 (rG l)) w):=by
 obtain⟨a,c,rfl,C⟩:=h.slice;have y:=aA h;clear h;unfold aP rG;have j:=aA (UP l.length w);by_cases h0:oE l.length≠0
 .rw[iP h0];have d:(oE l.length != 0)=true:=bne_iff_ne.2 h0;clear h0;generalize oE l.length=z at *;go_enter func247,ntmps247;go_wp2_with fail;refine j.o.mono ?_;rintro e w1 ⟨rfl,rfl⟩;exact FR
 rw[iN h0];have h0:oE l.length=0:=by simpa using h0
 rw[h0] at j;clear h0;obtain⟨res,q⟩:=xE (gD rF l);rw[<-q];have HR0:Hid (gD rF (l.drop 0)=res):=aA (by rw[List.drop_zero];exact q.symm);clear q;go_enter func247,ntmps247;go_wp2_with fail;refine j.o.mono ?_;rintro e w1 ⟨rfl,rfl⟩;clear j;go_wp2;go_loopw [15] (fun i wr=>∃k:Nat,k<=l.length/\i=.int .i64 k/\Hid (gD rF (l.drop k)=res)/\Hid (Below w.heap.size w wr)) (fun i _=>l.length - (intOf i).toNat)
 case atStart=>exact ZE
 case round=>
  clear HR0;obtain⟨k,B,rfl,HR,HB⟩:=hrel;by_cases p:k<l.length
  .have hk1:(k:Int)<(l.length:Int):=qo;obtain⟨b,off,r,rfl,_,A,⟨D,rfl,s⟩,x⟩:=aH.at dM (y.o.on dM HB.o) p qe;obtain⟨E,F,rfl,_⟩:=s.slice;have t:=x 0 _ rfl;rw[Nat.add_zero,Nat.mul_one] at t;have o:=aA (fun h1=>xF p HR.o h1);have n:=aA (fun h1=>AJ p HR.o h1);have f:=aA (Iw _ l[k] wr s);unfold aP at f;clear x HR s;by_cases he:rF l[k]=0
   .have HR2:=aA (n.o he);rw[he] at f;clear o n he;generalize l[k]=m at *;go_wp2_with fail;refine f.o.mono ?_;rintro e w2 ⟨rfl,g⟩;have HB2:=qB HB g;clear g f t;exact Sf
   .have HE:=aA (o.o he);have d2:(rF l[k] != 0)=true:=bne_iff_ne.2 he;clear o n he;generalize l[k]=m at *;generalize rF m=em at *;go_wp2_with fail;refine f.o.mono ?_;rintro e w2 ⟨rfl,g⟩;have HB2:=qB HB g;clear g f t;exact FT
  .exact Sg
theorem KO{ok:nP}(v:Value)(l:List (List (List Ma)))(w:World)(h:aH (rows (rows rK)) w ok v l):Calls prog 228 #[v] w (aP (.int .i64 (eW l)) w):=by
 obtain⟨a,c,rfl,A⟩:=h.slice;have x:=aA h;clear h;unfold aP eW;by_cases h0:8<l.length
 .rw[iP h0];have d:decide ((l.length:Int) > 8)=true:=dX qo;clear h0;go_enter func228,ntmps228;exact FR
 rw[iN h0];have d:decide ((l.length:Int) > 8)=false:=dF qo;clear h0;obtain⟨res,p⟩:=xE (gD rG l);rw[<-p];have HR0:Hid (gD rG (l.drop 0)=res):=aA (by rw[List.drop_zero];exact p.symm);clear p;go_enter func228,ntmps228;go_wp2;go_loopw [11] (fun i wr=>∃k:Nat,k<=l.length/\i=.int .i64 k/\Hid (gD rG (l.drop k)=res)/\Hid (Below w.heap.size w wr)) (fun i _=>l.length - (intOf i).toNat)
 case atStart=>exact ZE
 case round=>
  clear HR0;obtain⟨k,z,rfl,HR,HB⟩:=hrel;by_cases o:k<l.length
  .have hk1:(k:Int)<(l.length:Int):=qo;obtain⟨b,off,r,rfl,_,y,⟨B,rfl,q⟩,t⟩:=aH.at aS (x.o.on aS HB.o) o qe;obtain⟨C,D,rfl,_⟩:=q.slice;have s:=t 0 _ rfl;rw[Nat.add_zero,Nat.mul_one] at s;have n:=aA (fun h1=>xF o HR.o h1);have j:=aA (fun h1=>AJ o HR.o h1);have f:=aA (Ix _ l[k] wr q);unfold aP at f;clear t HR q;by_cases he:rG l[k]=0
   .have HR2:=aA (j.o he);rw[he] at f;clear n j he;generalize l[k]=m at *;go_wp2_with fail;refine f.o.mono ?_;rintro e w2 ⟨rfl,g⟩;have HB2:=qB HB g;clear g f s;exact Sf
   .have HE:=aA (n.o he);have d2:(rG l[k] != 0)=true:=bne_iff_ne.2 he;clear n j he;generalize l[k]=m at *;generalize rG m=em at *;go_wp2_with fail;refine f.o.mono ?_;rintro e w2 ⟨rfl,g⟩;have HB2:=qB HB g;clear g f s;exact FT
  .exact Sg
theorem Iy{p:Prop}(h:p:=by
 go_wp2;go_returns;exact⟨by rw[HE.o];rfl,aC HB.o (aB _ _)⟩):p:=h
theorem UR{ok:nP}(v:Value)(l:List Ob)(w:World)(h:aH jT w ok v l):Calls prog 229 #[v] w (aP (.int .i64 (lA l)) w):=by
 obtain⟨a,c,rfl,N⟩:=h.slice;have D:=aA h;clear h;unfold aP lA;by_cases h0:8<l.length
 .rw[iP h0];have d:decide ((l.length:Int) > 8)=true:=dX qo;clear h0;go_enter func229,ntmps229;exact FR
 rw[iN h0];have d:decide ((l.length:Int) > 8)=false:=dF qo;clear h0;obtain⟨f,t⟩:∃f:Ob->Int,f=(fun o:Ob=>if (1<=o.on/\o.on<=2)/\(1<=o.aCF/\o.aCF<=4)/\eL o.arg=true then (0:Int) else 1):=⟨_,rfl⟩;rw[<-t];have j:Hid (∀o:Ob,¬((1<=o.on/\o.on<=2)/\(1<=o.aCF/\o.aCF<=4)/\eL o.arg=true)->f o=1):=aA (fun o h=>by rw[t];exact iN h);have n:Hid (∀o:Ob,((1<=o.on/\o.on<=2)/\(1<=o.aCF/\o.aCF<=4)/\eL o.arg=true)->f o=0):=aA (fun o h=>by rw[t];exact iP h);clear t;obtain⟨res,z⟩:=xE (gD f l);rw[<-z];have HR0:Hid (gD f (l.drop 0)=res):=aA (by rw[List.drop_zero];exact z.symm);clear z;go_enter func229,ntmps229;go_wp2;go_loopw [10] (fun i wr=>∃k:Nat,k<=l.length/\i=.int .i64 k/\Hid (gD f (l.drop k)=res)/\Hid (Below w.heap.size w wr)) (fun i _=>l.length - (intOf i).toNat)
 case atStart=>exact ZE
 case round=>
  clear HR0;obtain⟨k,M,rfl,HR,HB⟩:=hrel;by_cases y:k<l.length
  .have hk1:(k:Int)<(l.length:Int):=qo;obtain⟨b,off,r,rfl,_,L,⟨rfl,B⟩,A⟩:=aH.at aO (D.o.on aO HB.o) y qe;obtain⟨C,J,K⟩:=cR3 A;rw[Nat.add_zero] at C;have m:=aA (fun h1=>xF y HR.o h1);have p:=aA (fun h1=>AJ y HR.o h1);have s:=aA (fun w=>oN l[k].arg (by have:=B.2.2;unfold cP at this;unfold maxLen;omega) w);clear A HR B;generalize l[k]=o at *;by_cases h1:o.on<1
   .have HE:Hid (res=1):=aA (by
     have g:=j.o o (by rintro⟨x,a2,_⟩;omega);rw[m.o (by rw[g];decide),g])
    clear m p n j;have E:decide (o.on<1)=true:=dX qo;clear h1;exact Iy
   have E:decide (o.on<1)=false:=dF qo;by_cases h2:2<o.on
   .have HE:Hid (res=1):=aA (by
     have g:=j.o o (by rintro⟨x,a2,_⟩;omega);rw[m.o (by rw[g];decide),g])
    clear m p n j;have F:decide (o.on > 2)=true:=dX qo;clear h2;exact Iy
   have F:decide (o.on > 2)=false:=dF qo;by_cases h3:o.aCF<1
   .have HE:Hid (res=1):=aA (by
     have g:=j.o o (by rintro⟨x,a2,_⟩;omega);rw[m.o (by rw[g];decide),g])
    clear m p n j;have G:decide (o.aCF<1)=true:=dX qo;clear h3;exact Iy
   have G:decide (o.aCF<1)=false:=dF qo;by_cases h4:4<o.aCF
   .have HE:Hid (res=1):=aA (by
     have g:=j.o o (by rintro⟨x,a2,_⟩;omega);rw[m.o (by rw[g];decide),g])
    clear m p n j;have H:decide (o.aCF > 4)=true:=dX qo;clear h4;exact Iy
   have H:decide (o.aCF > 4)=false:=dF qo
   cases q:eL o.arg
   .have I:=q;rw[q] at s;have HE:Hid (res=1):=aA (by
     have g:=j.o o (by rintro⟨_,_,a3⟩;rw[q] at a3;cases a3);rw[m.o (by rw[g];decide),g])
    clear m p n j;clear q I h1 h2 h3 h4;go_wp2_with fail;refine(s.o _).mono ?_;rintro e w2 ⟨rfl,rfl⟩;clear s;exact Iy
   .rw[q] at s;have HR2:=aA (p.o (n.o o ⟨⟨qo,qo⟩,⟨qo,qo⟩,q⟩));have HB2:=qB HB (aB _ (.cells #[.int .i64 o.on,.int .i64 o.aCF,.string o.arg] 200));clear q h1 h2 h3 h4 m p n j;go_wp2_with fail;refine(s.o _).mono ?_;rintro e w2 ⟨rfl,rfl⟩;clear s C J K;exact Sf
  .exact Sg
end Go.Proofs.YtlfngkelmbdehaaGreatDoor
