/- Lemmas. -/
import Derived.Test.YthcgdgkpgdjahaaGreatDoorMam
namespace Go.Proofs.YthcgdgkpgdjahaaGreatDoor
open Go.RowKit
set_option linter.unusedVariables false
set_option linter.unusedSimpArgs false
set_option maxHeartbeats 16000000
open _root_.Go.Proofs.Tryz
set_option maxRecDepth 20000
theorem Uj{p:Prop}(h:p:=by
 refine⟨rfl,?_,?_⟩
 .exact((((((((((HP.o.set qo).set qo).set qo).set qo).set qo).set qo).set qo).set qo).set qo).set qo)
 .exact cZ.end (((((((((((HK.o.set qo).set qo).set qo).set qo).set qo).set qo).set qo).set qo).set qo).set qo))):p:=h
theorem cZ.refl(B g:Nat)(w:World):cZ B g w w:=aN.refl _ _
theorem mP{L:List Tok}{s:bY}{p:PS}(h:cM L s p=true):kV L s p=(true,{p with at_:=p.at_+1}):=by unfold kV;rw[iP h]
theorem kH{L:List Tok}{s:bY}{p:PS}(h:cM L s p=false):kV L s p=(false,p):=by unfold kV;rw[iN (by rw[h];decide)]
abbrev Bl:Array Value:=#[.int .i64 0,.string ⟨#[]⟩,.bool false,.int .i64 0,.int .i64 0,.int .i64 0,.string ⟨#[]⟩]
theorem Wp{L:List Tok}{p:PS}(T:Toks L)(hp:p.at_<L.length)(g:Nat)(w:World)(h:PW L w g p)(h0:cM L (str "=") (cG L p).2=true):
 Calls prog 245 #[.pointer (some ⟨g,0,none⟩)] w (eX L g w (kX (eI L p).1) (eI L p).2):=by
 have X:=T.len;have Y:=h.lt;have HP:=aA h;have m1:=nT T hp;have m2:=yQ T m1.lt;have j:=aA (fun w h=>wM T hp g w h);have k:=aA (fun w h=>eR T (str "=") m1.lt g w h);rw[mP h0,Dp] at k;have l:sW L (cG L p).2=(1,{(cG L p).2 with at_:=(cG L p).2.at_+1}):=by unfold sW;rw[iP h0]
 rw[l] at m2;have i:=aA (fun w h=>sI T m2.lt g w h);have hm:eI L p=(⟨(cG L p).1,1,(dA L {(cG L p).2 with at_:=(cG L p).2.at_+1}).1⟩,(dA L {(cG L p).2 with at_:=(cG L p).2.at_+1}).2):=by unfold eI;dsimp only;rw[l]
 rw[hm];clear hm l m1 m2 h h0;unfold eX;unfold oQ at j;unfold dC at i;dsimp only at i ⊢;generalize cG L p=ra at *;generalize dA L {ra.2 with at_:=ra.2.at_+1}=m at *;go_enter func245,ntmps245;have HK:=aA (cZ.refl w.heap.size g w);go_wp2_with fail;refine(j.o _ (HP.o.alloc)).mono ?_;rintro e w1 ⟨rfl,c,a⟩;obtain⟨b,HK,HP⟩:=aZ (aF (aK _ _ _ qs) a qo:w1.heap[w.heap.size]? =some (.cells Bl 279 (0,0))) (HK.o.alloc.aD5 a) c;clear c a;have ab:=aD b.o;have ah:=HP.o.lt;clear j;go_wp2;refine wp_loop_rounds 4 ?_;rw[rounds_succ];go_wp2_with fail;refine(k.o _ (HP.o.alloc.alloc)).mono ?_;rintro e w2 ⟨rfl,c,a⟩;obtain⟨b,d,f,HK,HP⟩:=gJ (aF (aE (aE (b.o) (aB _ _)) (aB _ _)) a qo) (aF (aE (aK _ _ _ qs) (aB _ _)) a qo:w2.heap[w1.heap.size]? =some (.cells #[.int .i64 ra.1.cat,.string ra.1.name,.bool ra.1.aEm,.int .i64 0,.int .i64 0,.int .i64 0,.string ⟨#[]⟩] 279 (0,0))) (aF (aK _ _ _ qs) a qo:w2.heap[w1.heap.size+1]? =some (.cells #[.string ⟨#[61]⟩,.string ⟨#[60]⟩,.string ⟨#[62]⟩] 9 (0,0))) (HK.o.alloc.alloc.aD5 a) c;clear c a;have ad:=aD b.o;have Z:=aD d.o;have af:=aD f.o;have ai:=HP.o.lt;clear k;obtain⟨⟨n,M1,M2,o,q,r,s⟩,t,v,x,y,z,A,B⟩:=bI d.o;obtain⟨⟨W0,C,D⟩,E,F,G⟩:=cF f.o;go_wp2_with fail;refine(i.o _ ((HP.o.set qo))).mono ?_;rintro e w3 ⟨rfl,c,a⟩;obtain⟨b,d,f,HK,HP⟩:=gJ (aF (bE (b.o) qo) a qo) (aF (KR (d.o) _) a qo) (aF (bE (f.o) qo) a qo) ((HK.o.set qo).aD5 a) c;clear c a n M1 M2 o q r s t v x y z A B W0 C D E F G;have ae:=aD b.o;have aa:=aD d.o;have ag:=aD f.o;have aj:=HP.o.lt;clear i;obtain⟨⟨n,M1,M2,o,q,r,s⟩,t,v,x,y,z,A,B⟩:=bI d.o
 obtain⟨⟨H,I,J,K,M,N,O⟩,P,Q,R,S,U,V,W⟩:=bI b.o;go_wp2;refine bR (.agg #[.int .i64 ra.1.cat,.string ra.1.name,.bool ra.1.aEm,.int .i64 1,.int .i64 m.1.1,.int .i64 m.1.2.1,.string m.1.2.2]) ?_;exact Uj
theorem Wq{L:List Tok}{p:PS}(T:Toks L)(hp:p.at_<L.length)(g:Nat)(w:World)(h:PW L w g p)(h0:cM L (str "=") (cG L p).2=false)(h1:cM L (str "<") (cG L p).2=true):
 Calls prog 245 #[.pointer (some ⟨g,0,none⟩)] w (eX L g w (kX (eI L p).1) (eI L p).2):=by
 have Y:=T.len;have Z:=h.lt;have HP:=aA h;have m1:=nT T hp;have m2:=yQ T m1.lt;have y:=aA (fun w h=>wM T hp g w h);have z:=aA (fun w h=>eR T (str "=") m1.lt g w h);rw[kH h0,Dp] at z;have A:=aA (fun w h=>eR T (str "<") m1.lt g w h);rw[mP h1,Pt] at A;have G:sW L (cG L p).2=(2,{(cG L p).2 with at_:=(cG L p).2.at_+1}):=by unfold sW;rw[iN (by rw[h0];decide),iP h1]
 rw[G] at m2;have i:=aA (fun w h=>sI T m2.lt g w h);have hm:eI L p=(⟨(cG L p).1,2,(dA L {(cG L p).2 with at_:=(cG L p).2.at_+1}).1⟩,(dA L {(cG L p).2 with at_:=(cG L p).2.at_+1}).2):=by unfold eI;dsimp only;rw[G]
 rw[hm];clear hm G m1 m2 h h0 h1;unfold eX;unfold oQ at y;unfold dC at i;dsimp only at i ⊢;generalize cG L p=ra at *;generalize dA L {ra.2 with at_:=ra.2.at_+1}=H at *;go_enter func245,ntmps245;have HK:=aA (cZ.refl w.heap.size g w);go_wp2_with fail;refine(y.o _ (HP.o.alloc)).mono ?_;rintro e w1 ⟨rfl,c,a⟩;obtain⟨b,HK,HP⟩:=aZ (aF (aK _ _ _ qs) a qo:w1.heap[w.heap.size]? =some (.cells Bl 279 (0,0))) (HK.o.alloc.aD5 a) c;clear c a;have ae:=aD b.o;have al:=HP.o.lt;clear y;go_wp2;refine wp_loop_rounds 4 ?_;rw[rounds_succ];go_wp2_with fail;refine(z.o _ (HP.o.alloc.alloc)).mono ?_;rintro e w2 ⟨rfl,c,a⟩;obtain⟨b,d,f,HK,HP⟩:=gJ (aF (aE (aE (b.o) (aB _ _)) (aB _ _)) a qo) (aF (aE (aK _ _ _ qs) (aB _ _)) a qo:w2.heap[w1.heap.size]? =some (.cells #[.int .i64 ra.1.cat,.string ra.1.name,.bool ra.1.aEm,.int .i64 0,.int .i64 0,.int .i64 0,.string ⟨#[]⟩] 279 (0,0))) (aF (aK _ _ _ qs) a qo:w2.heap[w1.heap.size+1]? =some (.cells #[.string ⟨#[61]⟩,.string ⟨#[60]⟩,.string ⟨#[62]⟩] 9 (0,0))) (HK.o.alloc.alloc.aD5 a) c;clear c a;have af:=aD b.o;have aa:=aD d.o;have ai:=aD f.o;have an:=HP.o.lt;clear z;obtain⟨⟨j,M1,M2,k,l,m,n⟩,o,q,r,s,t,v,x⟩:=bI d.o;obtain⟨⟨W0,B,C⟩,D,E,F⟩:=cF f.o;go_wp2;rw[rounds_succ];go_wp2_with fail;refine(A.o _ (HP.o)).mono ?_;rintro e w3 ⟨rfl,c,a⟩;obtain⟨b,d,f,HK,HP⟩:=gJ (aF (b.o) a qo) (aF (d.o) a qo) (aF (f.o) a qo) (HK.o.aD5 a) c;clear c a j M1 M2 k l m n o q r s t v x W0 B C D E F;have ag:=aD b.o;have ab:=aD d.o;have aj:=aD f.o;have ao:=HP.o.lt;clear A;obtain⟨⟨j,M1,M2,k,l,m,n⟩,o,q,r,s,t,v,x⟩:=bI d.o
 obtain⟨⟨W0,B,C⟩,D,E,F⟩:=cF f.o;go_wp2_with fail;refine(i.o _ ((HP.o.set qo))).mono ?_;rintro e w4 ⟨rfl,c,a⟩;obtain⟨b,d,f,HK,HP⟩:=gJ (aF (bE (b.o) qo) a qo) (aF (KR (d.o) _) a qo) (aF (bE (f.o) qo) a qo) ((HK.o.set qo).aD5 a) c;clear c a j M1 M2 k l m n o q r s t v x W0 B C D E F;have ah:=aD b.o;have ad:=aD d.o;have ak:=aD f.o;have aq:=HP.o.lt;clear i;obtain⟨⟨j,M1,M2,k,l,m,n⟩,o,q,r,s,t,v,x⟩:=bI d.o;obtain⟨⟨I,J,K,M,N,O,P⟩,Q,R,S,U,V,W,X⟩:=bI b.o;go_wp2;refine bR (.agg #[.int .i64 ra.1.cat,.string ra.1.name,.bool ra.1.aEm,.int .i64 2,.int .i64 H.1.1,.int .i64 H.1.2.1,.string H.1.2.2]) ?_;exact Uj
theorem Wr{L:List Tok}{p:PS}(T:Toks L)(hp:p.at_<L.length)(g:Nat)(w:World)(h:PW L w g p)(h0:cM L (str "=") (cG L p).2=false)(h1:cM L (str "<") (cG L p).2=false)(h2:cM L (str ">") (cG L p).2=true):
 Calls prog 245 #[.pointer (some ⟨g,0,none⟩)] w (eX L g w (kX (eI L p).1) (eI L p).2):=by
 have Z:=T.len;have aa:=h.lt;have HP:=aA h;have m1:=nT T hp;have m2:=yQ T m1.lt;have D:=aA (fun w h=>wM T hp g w h);have E:=aA (fun w h=>eR T (str "=") m1.lt g w h);rw[kH h0,Dp] at E;have F:=aA (fun w h=>eR T (str "<") m1.lt g w h);rw[kH h1,Pt] at F;have G:=aA (fun w h=>eR T (str ">") m1.lt g w h);rw[mP h2,Zg] at G;have H:sW L (cG L p).2=(3,{(cG L p).2 with at_:=(cG L p).2.at_+1}):=by unfold sW;rw[iN (by rw[h0];decide),iN (by rw[h1];decide),iP h2]
 rw[H] at m2;have C:=aA (fun w h=>sI T m2.lt g w h);have hm:eI L p=(⟨(cG L p).1,3,(dA L {(cG L p).2 with at_:=(cG L p).2.at_+1}).1⟩,(dA L {(cG L p).2 with at_:=(cG L p).2.at_+1}).2):=by unfold eI;dsimp only;rw[H]
 rw[hm];clear hm H m1 m2 h h0 h1 h2;unfold eX;unfold oQ at D;unfold dC at C;dsimp only at C ⊢;generalize cG L p=ra at *;generalize dA L {ra.2 with at_:=ra.2.at_+1}=I at *;go_enter func245,ntmps245;have HK:=aA (cZ.refl w.heap.size g w);go_wp2_with fail;refine(D.o _ (HP.o.alloc)).mono ?_;rintro e w1 ⟨rfl,d,a⟩;obtain⟨c,HK,HP⟩:=aZ (aF (aK _ _ _ qs) a qo:w1.heap[w.heap.size]? =some (.cells Bl 279 (0,0))) (HK.o.alloc.aD5 a) d;clear d a;have ag:=aD c.o;have ar:=HP.o.lt;clear D;go_wp2;refine wp_loop_rounds 4 ?_;rw[rounds_succ];go_wp2_with fail;refine(E.o _ (HP.o.alloc.alloc)).mono ?_;rintro e w2 ⟨rfl,d,a⟩;obtain⟨c,b,f,HK,HP⟩:=gJ (aF (aE (aE (c.o) (aB _ _)) (aB _ _)) a qo) (aF (aE (aK _ _ _ qs) (aB _ _)) a qo:w2.heap[w1.heap.size]? =some (.cells #[.int .i64 ra.1.cat,.string ra.1.name,.bool ra.1.aEm,.int .i64 0,.int .i64 0,.int .i64 0,.string ⟨#[]⟩] 279 (0,0))) (aF (aK _ _ _ qs) a qo:w2.heap[w1.heap.size+1]? =some (.cells #[.string ⟨#[61]⟩,.string ⟨#[60]⟩,.string ⟨#[62]⟩] 9 (0,0))) (HK.o.alloc.alloc.aD5 a) d;clear d a;have ah:=aD c.o;have ab:=aD b.o;have al:=aD f.o;have au:=HP.o.lt;clear E;obtain⟨⟨i,M1,M2,j,k,l,m⟩,n,o,q,r,s,t,v⟩:=bI b.o;obtain⟨⟨W0,x,y⟩,z,A,B⟩:=cF f.o;go_wp2;rw[rounds_succ];go_wp2_with fail;refine(F.o _ (HP.o)).mono ?_;rintro e w3 ⟨rfl,d,a⟩;obtain⟨c,b,f,HK,HP⟩:=gJ (aF (c.o) a qo) (aF (b.o) a qo) (aF (f.o) a qo) (HK.o.aD5 a) d;clear d a i M1 M2 j k l m n o q r s t v W0 x y z A B;have ai:=aD c.o;have ad:=aD b.o;have an:=aD f.o;have av:=HP.o.lt;clear F;obtain⟨⟨i,M1,M2,j,k,l,m⟩,n,o,q,r,s,t,v⟩:=bI b.o
 obtain⟨⟨W0,x,y⟩,z,A,B⟩:=cF f.o;go_wp2;rw[rounds_succ];go_wp2_with fail;refine(G.o _ (HP.o)).mono ?_;rintro e w4 ⟨rfl,d,a⟩;obtain⟨c,b,f,HK,HP⟩:=gJ (aF (c.o) a qo) (aF (b.o) a qo) (aF (f.o) a qo) (HK.o.aD5 a) d;clear d a i M1 M2 j k l m n o q r s t v W0 x y z A B;have aj:=aD c.o;have ae:=aD b.o;have ao:=aD f.o;have aw:=HP.o.lt;clear G;obtain⟨⟨i,M1,M2,j,k,l,m⟩,n,o,q,r,s,t,v⟩:=bI b.o;obtain⟨⟨W0,x,y⟩,z,A,B⟩:=cF f.o;go_wp2_with fail;refine(C.o _ ((HP.o.set qo))).mono ?_;rintro e w5 ⟨rfl,d,a⟩;obtain⟨c,b,f,HK,HP⟩:=gJ (aF (bE (c.o) qo) a qo) (aF (KR (b.o) _) a qo) (aF (bE (f.o) qo) a qo) ((HK.o.set qo).aD5 a) d;clear d a i M1 M2 j k l m n o q r s t v W0 x y z A B;have ak:=aD c.o;have af:=aD b.o;have aq:=aD f.o;have ax:=HP.o.lt;clear C;obtain⟨⟨i,M1,M2,j,k,l,m⟩,n,o,q,r,s,t,v⟩:=bI b.o;obtain⟨⟨J,K,M,N,O,P,Q⟩,R,S,U,V,W,X,Y⟩:=bI c.o;go_wp2;refine bR (.agg #[.int .i64 ra.1.cat,.string ra.1.name,.bool ra.1.aEm,.int .i64 3,.int .i64 I.1.1,.int .i64 I.1.2.1,.string I.1.2.2]) ?_;exact Uj
theorem Ws{L:List Tok}{p:PS}(T:Toks L)(hp:p.at_<L.length)(g:Nat)(w:World)(h:PW L w g p)(h0:cM L (str "=") (cG L p).2=false)(h1:cM L (str "<") (cG L p).2=false)(h2:cM L (str ">") (cG L p).2=false):
 Calls prog 245 #[.pointer (some ⟨g,0,none⟩)] w (eX L g w (kX (eI L p).1) (eI L p).2):=by
 have M:=T.len;have ad:=h.lt;have HP:=aA h;have m1:=nT T hp;have m2:=yQ T m1.lt;have E:=aA (fun w h=>wM T hp g w h);have F:=aA (fun w h=>eR T (str "=") m1.lt g w h);rw[kH h0,Dp] at F;have G:=aA (fun w h=>eR T (str "<") m1.lt g w h);rw[kH h1,Pt] at G;have H:=aA (fun w h=>eR T (str ">") m1.lt g w h);rw[kH h2,Zg] at H;have I:sW L (cG L p).2=(0,dL L (cG L p).2):=by unfold sW;rw[iN (by rw[h0];decide),iN (by rw[h1];decide),iN (by rw[h2];decide)]
 rw[I] at m2;have D:=aA (fun w h=>sI T m2.lt g w h);have K:=aA (fun w h=>mC m1.lt M g w h);have hm:eI L p=(⟨(cG L p).1,0,(dA L (dL L (cG L p).2)).1⟩,(dA L (dL L (cG L p).2)).2):=by unfold eI;dsimp only;rw[I]
 rw[hm];clear hm I m1 m2 h h0 h1 h2;unfold eX;unfold oQ at E;unfold dC at D;dsimp only at D ⊢;generalize cG L p=ra at *;generalize dL L ra.2=q at *;generalize dA L q=J at *;go_enter func245,ntmps245;have HK:=aA (cZ.refl w.heap.size g w);go_wp2_with fail;refine(E.o _ (HP.o.alloc)).mono ?_;rintro e w1 ⟨rfl,d,a⟩;obtain⟨c,HK,HP⟩:=aZ (aF (aK _ _ _ qs) a qo:w1.heap[w.heap.size]? =some (.cells Bl 279 (0,0))) (HK.o.alloc.aD5 a) d;clear d a;have aj:=aD c.o;have ay:=HP.o.lt;clear E;go_wp2;refine wp_loop_rounds 4 ?_;rw[rounds_succ];go_wp2_with fail;refine(F.o _ (HP.o.alloc.alloc)).mono ?_;rintro e w2 ⟨rfl,d,a⟩;obtain⟨c,b,f,HK,HP⟩:=gJ (aF (aE (aE (c.o) (aB _ _)) (aB _ _)) a qo) (aF (aE (aK _ _ _ qs) (aB _ _)) a qo:w2.heap[w1.heap.size]? =some (.cells #[.int .i64 ra.1.cat,.string ra.1.name,.bool ra.1.aEm,.int .i64 0,.int .i64 0,.int .i64 0,.string ⟨#[]⟩] 279 (0,0))) (aF (aK _ _ _ qs) a qo:w2.heap[w1.heap.size+1]? =some (.cells #[.string ⟨#[61]⟩,.string ⟨#[60]⟩,.string ⟨#[62]⟩] 9 (0,0))) (HK.o.alloc.alloc.aD5 a) d;clear d a;have ak:=aD c.o;have ae:=aD b.o;have ar:=aD f.o;have az:=HP.o.lt;clear F;obtain⟨⟨i,M1,M2,j,k,l,m⟩,n,o,r,s,t,v,x⟩:=bI b.o;obtain⟨⟨W0,y,z⟩,A,B,C⟩:=cF f.o;go_wp2;rw[rounds_succ];go_wp2_with fail;refine(G.o _ (HP.o)).mono ?_;rintro e w3 ⟨rfl,d,a⟩;obtain⟨c,b,f,HK,HP⟩:=gJ (aF (c.o) a qo) (aF (b.o) a qo) (aF (f.o) a qo) (HK.o.aD5 a) d;clear d a i M1 M2 j k l m n o r s t v x W0 y z A B C;have al:=aD c.o;have af:=aD b.o;have au:=aD f.o;have a1:=HP.o.lt;clear G;obtain⟨⟨i,M1,M2,j,k,l,m⟩,n,o,r,s,t,v,x⟩:=bI b.o
 obtain⟨⟨W0,y,z⟩,A,B,C⟩:=cF f.o;go_wp2;rw[rounds_succ];go_wp2_with fail;refine(H.o _ (HP.o)).mono ?_;rintro e w4 ⟨rfl,d,a⟩;obtain⟨c,b,f,HK,HP⟩:=gJ (aF (c.o) a qo) (aF (b.o) a qo) (aF (f.o) a qo) (HK.o.aD5 a) d;clear d a i M1 M2 j k l m n o r s t v x W0 y z A B C;have an:=aD c.o;have ag:=aD b.o;have av:=aD f.o;have a6:=HP.o.lt;clear H;obtain⟨⟨i,M1,M2,j,k,l,m⟩,n,o,r,s,t,v,x⟩:=bI b.o;obtain⟨⟨W0,y,z⟩,A,B,C⟩:=cF f.o;go_wp2;rw[rounds_succ];go_wp2_with fail;refine(K.o _ (HP.o)).mono ?_;rintro e w5 ⟨rfl,d,a⟩;obtain⟨c,b,f,HK,HP⟩:=gJ (aF (c.o) a qo) (aF (b.o) a qo) (aF (f.o) a qo) (HK.o.aD5 a) d;clear d a i M1 M2 j k l m n o r s t v x W0 y z A B C;have ao:=aD c.o;have ah:=aD b.o;have aw:=aD f.o;have a7:=HP.o.lt;clear K;obtain⟨⟨i,M1,M2,j,k,l,m⟩,n,o,r,s,t,v,x⟩:=bI b.o;go_wp2_with fail;refine(D.o _ (HP.o)).mono ?_;rintro e w6 ⟨rfl,d,a⟩;obtain⟨c,b,f,HK,HP⟩:=gJ (aF (c.o) a qo) (aF (b.o) a qo) (aF (f.o) a qo) (HK.o.aD5 a) d;clear d a i M1 M2 j k l m n o r s t v x;have aq:=aD c.o;have ai:=aD b.o;have ax:=aD f.o;have a8:=HP.o.lt;clear D;obtain⟨⟨i,M1,M2,j,k,l,m⟩,n,o,r,s,t,v,x⟩:=bI b.o;obtain⟨⟨N,O,P,Q,R,S,U⟩,V,W,X,Y,Z,aa,ab⟩:=bI c.o;go_wp2;refine bR (.agg #[.int .i64 ra.1.cat,.string ra.1.name,.bool ra.1.aEm,.int .i64 0,.int .i64 J.1.1,.int .i64 J.1.2.1,.string J.1.2.2]) ?_;exact Uj
theorem Jr{L:List Tok}{p:PS}(T:Toks L)(hp:p.at_<L.length)(g:Nat)(w:World)(h:PW L w g p):
 Calls prog 245 #[.pointer (some ⟨g,0,none⟩)] w (eX L g w (kX (eI L p).1) (eI L p).2):=by
 cases h0:cM L (str "=") (cG L p).2
 .cases h1:cM L (str "<") (cG L p).2
  .cases h2:cM L (str ">") (cG L p).2
   .exact Ws T hp g w h h0 h1 h2
   .exact Wr T hp g w h h0 h1 h2
  .exact Wq T hp g w h h0 h1
 .exact Wp T hp g w h h0
section
variable {L:List Tok} (T:Toks L)
include T
theorem QE{p:PS}(h:p.at_<L.length):(aU L p).str.size<=4096/\bL (aU L p).num/\0<=(aU L p).at_/\(aU L p).at_<=4096:=by
 rw[FB h];have hm:=List.getElem_mem h;exact⟨T.size _ hm,T.num _ hm,T.place _ hm⟩
theorem rT{p:PS}(h:p.at_<L.length):(bT L p).1.size<=4096:=by
 unfold bT;dsimp only;generalize (if (aU L p).aDN≠1 then dL L p else p)=q;by_cases a:q.bad≠0
 .rw[iP a];show ByteArray.empty.size<=4096;decide
 .rw[iN a];exact(QE T h).1
omit T in
theorem nY(words:List ByteArray)(p:PS):0<=(bA L words p).1/\(bA L words p).1<=words.length:=by
 unfold bA;dsimp only;split
 .rename_i h;have:=h.2.1;exact⟨by simp only;omega,by simp only;omega⟩
 .exact⟨by simp only;omega,by simp only;omega⟩
theorem QF{p:PS}(h:p.at_<L.length):CI (cG L p).1:=by
 unfold cG;dsimp only;have h1:=dR T [str "subject",str "action",str "case",str "env"] h;have h2:=gD T (str ".") h1.lt;have h3:=rT T h2.lt;have h4:=nY (L:=L) [str "subject",str "action",str "case",str "env"] p;simp only[List.length_cons,List.length_nil] at h4;exact⟨by unfold bL;show _<=(bA L _ p).1/\(bA L _ p).1<=_;omega,lT h3 (by unfold cQ;omega)⟩
theorem LD{p:PS}(h:p.at_<L.length):cS (dA L p).1:=by
 have b:=QE T h;have d:(aU L p).str.size<=cQ:=lT b.1 (by unfold cQ;omega);have h0:cS aY:=⟨by unfold aY bL;simp,by unfold aY bL;simp,Nat.zero_le _⟩;have a:∀k:Int,0<=k->k<=5->cS (k,(aU L p).num,(aU L p).str):=fun k h1 h2=>⟨by unfold bL;show _<=k/\k<=_;omega,b.2.1,d⟩
 have c:∀n:Int,0<=n->n<=1->cS (1,n,ByteArray.empty):=fun n h1 h2=>⟨by unfold bL;show _<=(1:Int)/\(1:Int)<=_;omega,by unfold bL;show _<=n/\n<=_;omega,Nat.zero_le _⟩
 have e:cS (eW L p).1:=by
  unfold eW;dsimp only;split
  .exact a 2 qo qo
  split
  .exact a 4 qo qo
  split
  .exact a 5 qo qo
  split
  .exact a 3 qo qo
  split
  .exact c 1 qo qo
  split
  .exact c 0 qo qo
  .exact a 0 qo qo
 rw[zP];split
 .exact h0
 .exact e
omit T in
theorem Wt(p:PS):0<=(sW L p).1/\(sW L p).1<=3:=by
 unfold sW
 repeat' split
 all_goals exact⟨by simp only;omega,by simp only;omega⟩
theorem Ed{p:PS}(h:p.at_<L.length):uF (eI L p).1:=by
 unfold eI;dsimp only;have h1:=nT T h;have h2:=yQ T h1.lt;have h3:=Wt (L:=L) (cG L p).2;exact⟨QF T h,by unfold bL;show _<=(sW L _).1/\(sW L _).1<=_;omega,LD T h2.lt⟩
theorem Js{p:PS}(h:p.at_<L.length):yO (tW L p).1:=by
 unfold tW;dsimp only;have h1:=dR T [str "permit",str "deny"] h;have h2:=dR T [str "log",str "redact",str "review",str "notify"] h1.lt;have h3:=rT T h2.lt;have h4:=nY (L:=L) [str "permit",str "deny"] p;have h5:=nY (L:=L) [str "log",str "redact",str "review",str "notify"] (bA L [str "permit",str "deny"] p).2;simp only[List.length_cons,List.length_nil] at h4 h5;exact⟨by unfold bL;show _<=(bA L _ _).1/\(bA L _ _).1<=_;omega,by unfold bL;show _<=(bA L _ _).1/\(bA L _ _).1<=_;omega,lT h3 (by unfold cQ;omega)⟩
end
theorem ZI(s:bY)(k:s.size<=4096)(l:0<s.size)(h1:(s[0].toNat:Int)=34)(w:World)(m:iA w):
 Calls prog 111 #[.string s] w (qJ (bZ s.data.toList).1 (bZ s.data.toList).2 w):=by
 have a:=aA (iR s[0]);have g:bB s[0]=false:=by rw[Bool.eq_false_iff];intro h;have:=(eY s[0]).1 h;omega
 rw[g] at a;have d1:decide ((s[0].toNat:Int) ≥ 97)=false:=dF qo;have d:=aA (YN s k);have c:Hid (bZ s.data.toList=(⟨5,0,0,bs (kA s.data.toList).1⟩,(kA s.data.toList).2)):=aA (by rw[pB s l,Dj h1]);have d45:((s[0].toNat:Int)==45)=false:=bN.2 qo;have d64:((s[0].toNat:Int)==64)=false:=bN.2 qo;have d35:((s[0].toNat:Int)==35)=false:=bN.2 qo;have d34:((s[0].toNat:Int)==34)=true:=bQ.2 h1;unfold qJ;rw[c.o];clear c g h1;generalize kA s.data.toList=i at *;go_enter func111,ntmps111;go_wp2_with fail;refine(a.o _).mono ?_;rintro e w' ⟨rfl,rfl⟩;go_wp2_with fail;refine(d.o _).mono ?_;rintro e w1 ⟨rfl,f⟩;obtain⟨b0,b1,n,b⟩:=rR f;obtain⟨⟨o,p,q,r⟩,f0,f1,f2,f3⟩:=nV b1;obtain⟨⟨t,v,x,y⟩,g0,g1,g2,g3⟩:=nV b0;have j:=aA b;clear b0 b1 b f d a;go_wp2;refine bR (.tuple #[.agg #[.int .i64 5,.int .i64 0,.int .i64 0,.string (bs i.1)],.int .i64 i.2]) ?_;exact⟨rfl,by have b:=j.o;go_grown⟩
theorem Wu(c:UInt8)(w:World):Calls prog 161 #[.string ⟨#[123,125,40,41,46,44,59,61,60,62,33]⟩,.int .u8 (c.toNat:Int)] w fun e w'=>e=.returned (.int .i64 (Lib.indexByte [123,125,40,41,46,44,59,61,60,62,33] c))/\w=w':=by
 refine(strings_IndexByte _ (c.toNat:Int) w).mono ?_;rintro e w' ⟨rfl,rfl⟩;refine⟨?_,rfl⟩;have:((c.toNat:Int)).toNat.toUInt8=c:=by simp
 rw[this]
theorem VA(s:bY)(l:s.size<=4096)(i:0<s.size)(h1:Tt s[0])(w:World)(k:iA w):
 Calls prog 111 #[.string s] w (qJ (bZ s.data.toList).1 (bZ s.data.toList).2 w):=by
 have a:=aA (iR s[0]);rw[h1.dig] at a;have d:=aA (Wu s[0]);have b:Hid (bZ s.data.toList=if EX s[0] then (⟨6,0,0,s.extract 0 1⟩,1) else (⟨0,0,0,bs []⟩,0)):=aA (by
  rw[FC s 1];rw[pB s i,YO h1];rfl)
 have d45:((s[0].toNat:Int)==45)=false:=bN.2 h1.n45;have d64:((s[0].toNat:Int)==64)=false:=bN.2 h1.n64;have d35:((s[0].toNat:Int)==35)=false:=bN.2 h1.n35;have d34:((s[0].toNat:Int)==34)=false:=bN.2 h1.n34;have c:=aA (Dk s[0]);have m:(1:Int)<=(s.size:Int):=qo;have g:((s[0].toNat:Int) ≥ 97/\¬(s[0].toNat:Int)<=122)\/¬(s[0].toNat:Int) ≥ 97:=qA h1.low;unfold qJ;rw[b.o];clear b h1;generalize Lib.indexByte [123,125,40,41,46,44,59,61,60,62,33] s[0]=n at *;generalize EX s[0]=mk at *;have j:=c.o
 rcases g with ⟨q1,f⟩|q1
 all_goals
  first|(have d1:decide ((s[0].toNat:Int) ≥ 97)=true:=dX q1;have d2:decide ((s[0].toNat:Int)<=122)=false:=dF f;clear f)|(have d1:decide ((s[0].toNat:Int) ≥ 97)=false:=dF q1)
  clear q1 c
  cases mk
  .rw[iN qe];go_enter func111,ntmps111;go_wp2_with fail;refine(a.o _).mono ?_;rintro e w' ⟨rfl,rfl⟩;go_wp2_with fail;refine(d.o _).mono ?_;rintro e w' ⟨rfl,rfl⟩;go_wp2;go_returns;exact⟨rfl,by go_grown⟩
  .rw[iP rfl];go_enter func111,ntmps111;go_wp2_with fail;refine(a.o _).mono ?_;rintro e w' ⟨rfl,rfl⟩;go_wp2_with fail;refine(d.o _).mono ?_;rintro e w' ⟨rfl,rfl⟩;go_wp2;go_region
   all_goals
    go_wp2;go_returns;exact⟨rfl,by go_grown⟩
theorem Ee(s:bY)(b:s.size<=4096)(c:0<s.size)(w:World)(a:iA w):
 Calls prog 111 #[.string s] w (qJ (bZ s.data.toList).1 (bZ s.data.toList).2 w):=by
 by_cases h1:97<=(s[0].toNat:Int)/\(s[0].toNat:Int)<=122
 .exact Dl s b c h1.1 h1.2 w a
 by_cases h2:bB s[0]=true
 .exact Dm s b c h2 w a
 by_cases h3:(s[0].toNat:Int)=45
 .exact Dn s b c h3 w a
 by_cases h4:(s[0].toNat:Int)=64
 .exact Is s b c h4 w a
 by_cases h5:(s[0].toNat:Int)=35
 .exact Iu s b c h5 w a
 by_cases h6:(s[0].toNat:Int)=34
 .exact ZI s b c h6 w a
 exact VA s b c ⟨h1,by simpa using h2,h3,h4,h5,h6⟩ w a
theorem QBA{p:Prop}(h:p:=by
 go_wp2;go_step3
 exact⟨rfl,⟨k+1,out,A,c,t0,t1,t2,t3,_,_,_,_,_,_,_,_,_,_,_,_,_,_,_,_,_,_,_,_,_,_,_,_,_,_,_,_,_,_,_,_,_,_,_,_,_,_,_,_,_,_,_,_,_,_,_,_,_,rfl,by go_num,qo,HR2,HO,HA2,HT,HB⟩,by simp[intOf];omega⟩):p:=h
abbrev gT(a:Act)(k:Nat):Value:=a.tmps.getD k undef
def pI(s:bY)(k:Nat)(out:List Tok):Prop:=jU s.data.toList=jQ ((s.data.toList.drop k).length+1) (s.data.toList.drop k) k out
theorem vK:∀(f g:Nat) (l:lU) (k:Nat) (out:List Tok),l.length<f->l.length<g->l.length<=4096->jQ f l k out=jQ g l k out
 |0,_,l,_,_,h,_,_=>absurd h qo
 |_,0,l,_,_,_,h,_=>absurd h qo
 |f+1,g+1,[],k,out,_,_,_=>rfl
 |f+1,g+1,c::r,k,out,hf,hg,hl=>by
  simp only[List.length_cons] at hf hg hl;unfold jQ;dsimp only;by_cases h1:c.toNat=32\/c.toNat=10
  .rw[iP h1,iP h1];exact vK f g r _ _ qo qo qo
  .rw[iN h1,iN h1];by_cases h2:(bZ (c::r)).2=0
   .rw[iP h2,iP h2]
   .rw[iN h2,iN h2];have a:(List.drop (bZ (c::r)).2 (c::r)).length<=r.length:=by rw[List.length_drop];simp only[List.length_cons];omega
    exact vK f g _ _ _ qo qo qo
theorem Jt(s:bY)(b:s.size<=4096):pI s 0 []:=by
 have a:s.data.toList.length=s.size:=by rw[Array.length_toList];rfl
 unfold pI jU;rw[iN qo];rfl
theorem Wv{s:bY}{out:List Tok}(h:pI s s.size out):jU s.data.toList=(out++[⟨7,s.size,0,bs []⟩],0,0):=by
 have a:s.data.toList.length=s.size:=by rw[Array.length_toList];rfl
 unfold pI at h;rw[h,List.drop_of_length_le qo];rfl
structure Qi (s:ByteArray) (k:Nat) (out:List Tok) (c:UInt8):Prop where
 blank:c.toNat=32\/c.toNat=10->pI s (k+1) out
 no:¬(c.toNat=32\/c.toNat=10)->(bZ (s.extract k s.size).data.toList).2=0->jU s.data.toList=([],5,(k:Int))
 tok:¬(c.toNat=32\/c.toNat=10)->(bZ (s.extract k s.size).data.toList).2≠0->pI s (k+(bZ (s.extract k s.size).data.toList).2) (out++[{(bZ (s.extract k s.size).data.toList).1 with at_:=(k:Int)}])/\k+(bZ (s.extract k s.size).data.toList).2<=s.size
theorem Qj{s:bY}{k:Nat}{out:List Tok}(f:s.size<=4096)(d:k<s.size)(h:pI s k out):Qi s k out s[k]:=by
 have b:s.data.toList.length=s.size:=by rw[Array.length_toList];rfl
 have e:k<s.data.toList.length:=by rw[b];exact d
 have a:s.data.toList.drop k=s[k] ::s.data.toList.drop (k+1):=List.drop_eq_getElem_cons e;have c:(s.extract k s.size).data.toList=s[k] ::s.data.toList.drop (k+1):=by rw[yR s k qo,a]
 have h3:=h;unfold pI at h3;rw[a] at h3;have hle:=(qT (s[k] ::s.data.toList.drop (k+1)) (by rw[<-a,List.length_drop];omega)).le;rw[<-a,List.length_drop,b] at hle;unfold jQ at h3;dsimp only at h3;refine⟨fun h1=> ?_,fun h1 h2=> ?_,fun h1 h2=> ?_⟩
 .rw[iP h1] at h3;unfold pI;rw[h3];exact vK _ _ _ _ _ qs qo (by rw[List.length_drop];omega)
 .rw[c] at h2;rw[iN h1,iP h2] at h3;exact h3
 .rw[c] at h2 ⊢;rw[iN h1,iN h2] at h3;rw[<-a] at h3 h2 ⊢;have h4:(bZ (s.data.toList.drop k)).2≠0:=h2;refine⟨?_,qo⟩;unfold pI;rw[h3,List.drop_drop];exact vK _ _ _ _ _ (by rw[List.length_drop,List.length_drop];omega) qo (by rw[List.length_drop];omega)
theorem Bm(s:bY)(k:Nat)(a:k<=s.size):(s.extract k s.size).data.toList.length=s.size - k:=by
 rw[yR s k a,List.length_drop,Array.length_toList];rfl
theorem Zy:dZ prog 126 130 4 40:=fR (z:= .agg #[.int .i64 0,.int .i64 0,.int .i64 0,.string ByteArray.empty]) underlying126 (by kernel_rfl) rfl qe
def yU(l:lU)(w:World)(e:Ending)(w':World):Prop:=∃v,e=.returned (.tuple #[v,.int .i64 (jU l).2.1,.int .i64 (jU l).2.2])/\aH TO w' (fun b=>w.heap.size<=b) v (jU l).1/\Below w.heap.size w w'
theorem uZ{P:Program}{c c1:Code}{Q:Exit->Act->World->Prop}{a:Act}{w:World}(l:Nat)(J:Act->World->Prop)(μ:Act->World->Nat)(d:findLabel c l=some (.seq .skip c1))
 (pass:∀a w,J a w->c1.wp P (Exit.jump l (fun b w'=>J b w'/\μ b w'<μ a w) Q) a w)
 (first:(∀a w,J a w->c1.wp P (Exit.jump l J Q) a w)->c.wp P (Exit.jump l J Q) a w):(Code.scope c).wp P Q a w:=
 wp_scope_jumps l J μ d (first fun a w h=>Code.wp_mono (fun e b w' q=>by
  cases e<;>first|exact q|exact⟨q.1,q.2.1⟩) (pass a w h)) fun a w h=>wp_seq (wp_skip (pass a w h))
def aDp(w:World)(s:bY)(d:Act)(w':World):Prop:=
 ∃(k:Nat) (out:List Tok) (A:oD) (c:Nat) (t0 t1 t2:Int) (t3:bY) (a:Value) (u1 u2 u3 u4 u8 u9 u10 u11 u12 u13 u14 u15 u16 u17 u18 u19 u20 u21 u22 u23 u24 u25 u26 u27 u28 u29 u30 u31 u32 u33 u34 u35 u36 u37 u38 u39 u40 u41 u42 u43 u44 u45 u46 u47 u48 u49 u50 u51:Value),d={tmps:=#[.string s,u1,u2,u3,u4,.slice A out.length c,.pointer (some ⟨w.heap.size,0,none⟩),a,u8,u9,u10,u11,u12,u13,u14,u15,u16,u17,u18,u19,u20,u21,u22,u23,u24,u25,u26,u27,u28,u29,u30,u31,u32,u33,u34,u35,u36,u37,u38,u39,u40,u41,u42,u43,u44,u45,u46,u47,u48,u49,u50,u51],defers:=[]}/\
  a=.int .i64 k/\k<=s.size/\Hid (pI s k out)/\Hid (aM TO 4 130 w' (w.heap.size+1) (fun b=>w.heap.size<b) (.slice A out.length c) out)/\Hid (pT out k)/\Hid (w'.heap[w.heap.size]? =some (.cells #[.int .i64 t0,.int .i64 t1,.int .i64 t2,.string t3] 130 (0,0)))/\Hid (Below w.heap.size w w')
theorem Bn(s:bY)(W:s.size<=4096)(w:World)(hg:iA w):Calls prog 54 #[.string s] w (yU s.data.toList w):=by
 go_enter func54,ntmps54;go_wp2;refine uZ 0 (fun x w'=>aDp w s x w') (fun x _=>s.size - (intOf (gT x 7)).toNat) rfl ?_ ?_
 .rintro x wr ⟨k,out,A,c,t0,t1,t2,t3,_,u1,u2,u3,u4,u8,u9,u10,u11,u12,u13,u14,u15,u16,u17,u18,u19,u20,u21,u22,u23,u24,u25,u26,u27,u28,u29,u30,u31,u32,u33,u34,u35,u36,u37,u38,u39,u40,u41,u42,u43,u44,u45,u46,u47,u48,u49,u50,u51,rfl,rfl,U,t,HO,d,HT,HB⟩;by_cases ad:k<s.size
  .have f:=aA (Qj W ad t.o);have dk:((k:Int)==(s.size:Int))=false:=bN.2 qo;clear t;by_cases h32:s[k].toNat=32
   .have d32:((s[k].toNat:Int)==32)=true:=bQ.2 qo;have HR2:=aA (f.o.blank (.inl h32));have HA2:Hid (pT out (k+1)):=aA ⟨qA d.o.len,d.o.size,d.o.num,d.o.place,d.o.aDN⟩;clear f h32 d;exact QBA
   by_cases h10:s[k].toNat=10
   .have d32:((s[k].toNat:Int)==32)=false:=bN.2 qo;have d10:((s[k].toNat:Int)==10)=true:=bQ.2 qo;have HR2:=aA (f.o.blank (.inr h10));have HA2:Hid (pT out (k+1)):=aA ⟨qA d.o.len,d.o.size,d.o.num,d.o.place,d.o.aDN⟩;clear f h32 h10 d;exact QBA
   .have d32:((s[k].toNat:Int)==32)=false:=bN.2 qo;have d10:((s[k].toNat:Int)==10)=false:=bN.2 qo;have R:¬(s[k].toNat=32\/s[k].toNat=10):=fun h=>h.elim h32 h10
    obtain⟨r,N,O⟩:=aZ (Ee (s.extract k s.size) (by rw[ByteArray.size_extract];omega) (by rw[ByteArray.size_extract];omega) wr (hg.on HB.o)) (f.o.no R) (f.o.tok R);have G:=aA (fun h=>d.o.snoc (k:=k) (l:=(s.extract k s.size).data.toList) (by rw[Bm s k U];omega) h);have i1:(0:Int)<=(k:Int):=qo;have i2:(k:Int)<=(s.size:Int):=qo;have L:=aA (qT (s.extract k s.size).data.toList (by rw[Bm s k U];omega));clear f h32 h10 R;generalize bZ (s.extract k s.size).data.toList=a at *;unfold qJ at r;unfold iD at r;go_wp2_with fail;refine r.o.mono ?_;rintro e w1 ⟨rfl,y⟩;obtain⟨S,H,v⟩:=aZ (HO.o.on iC y) (aC HB.o y) ((y.block _ (Array.getElem?_eq_some_iff.1 HT.o).1).trans HT.o);have X:w.heap.size<w1.heap.size:=(Array.getElem?_eq_some_iff.1 v.o).1;obtain⟨⟨x0,x1,x2,x3⟩,f0,f1,f2,f3⟩:=nV v.o;clear r y HO HB HT;by_cases m:a.2=0
    .have dn:((a.2:Int)==0)=true:=bQ.2 qo;have n:=aA (N.o m);clear N O G m;go_wp2;simp only[Exit.jump];go_ret3
     exact⟨.slice none 0 0,by rw[n.o];rfl,by rw[n.o];exact aH.nil,by have hb:=H.o;go_grown⟩
    .have dn:((a.2:Int)==0)=false:=bN.2 qo;obtain⟨V,hle⟩:=O.o m;have HR2:=aA V;have HA2:=aA (G.o m);have ae:=L.o.aDN m;have ai:0<a.2:=qo;clear N O G m V;go_upto_region 14 with (fail)
     obtain⟨w2,D⟩:=xE (((((w1.setCell ⟨w.heap.size,0,none⟩ (.int .i64 a.1.aDN)).setCell ⟨w.heap.size,1,none⟩ (.int .i64 a.1.at_)).setCell ⟨w.heap.size,2,none⟩ (.int .i64 a.1.num)).setCell ⟨w.heap.size,3,none⟩ (.string a.1.str)).setCell ⟨w.heap.size,1,none⟩ (.int .i64 k));rw[<-D];have C:aN (fun b=>b≠w.heap.size) w1 w2:=by
      rw[D];exact(aI _).trans ((aI _).trans ((aI _).trans ((aI _).trans (aI _))))
     have T:Hid (w2.heap[w.heap.size]? =some (.cells #[.int .i64 a.1.aDN,.int .i64 k,.int .i64 a.1.num,.string a.1.str] 130 (0,0))):=aA (by
      rw[D,aG (aG (aG (aG (aG v.o 0 _) 1 _) 2 _) 3 _) 1 _];rfl)
     have Z:=aA (S.o.aDW iC C (fun b h _=>by have:w.heap.size<b:=h;show b≠w.heap.size;omega) (fun b h _=>by show b≠w.heap.size;omega));have Y:=aA (H.o.trans (C.below (B:=w.heap.size) (fun b h=>⟨qo,qo⟩)));have ah:w.heap.size<w2.heap.size:=lL X C.size;obtain⟨⟨y0,y1,y2,y3⟩,_⟩:=nV T.o;have q:Hid (NI {a.1 with at_:=(k:Int)}):=aA ⟨by unfold bL;show -9223372036854775808<=a.1.aDN/\a.1.aDN<=9223372036854775807;omega,by unfold bL;show -9223372036854775808<=(k:Int)/\(k:Int)<=9223372036854775807;omega,L.o.num,lT L.o.size (by unfold cQ;omega)⟩;have af:out.length<=1000000:=by have:=HA2.o.len;rw[aL,List.length_singleton] at this;omega
     clear S H v x0 x1 x2 x3 f0 f1 f2 f3 C D;have g:=aB w2 (.cells #[.int .i64 a.1.aDN,.int .i64 k,.int .i64 a.1.num,.string a.1.str] 130);obtain⟨i,p,M⟩:=aZ (Z.o.on iC g) g (heap_alloc_new w2 (.cells #[.int .i64 a.1.aDN,.int .i64 k,.int .i64 a.1.num,.string a.1.str] 130));clear g;go_wp2_with (at_builtin;refine cC Zy iC rfl (.tmp 45) (.tmp 47) rfl _ out rfl i.o w2.heap.size 1 _ _ _ {a.1 with at_:=(k:Int)} rfl M.o ⟨rfl,q.o⟩ qo qo (by rw[World.size_alloc];omega) ?_;intro E z F P w3 o j Q;have J:=aA o;have ab:=aA ((i.o.block j qo (by rw[World.size_alloc];omega)).trans ((p.o.block _ ah).trans T.o));have I:=aA (i.o.below (aC Y.o p.o) j qo (by rw[World.size_alloc];omega));clear o j Q)
     rw[<-z.o] at HR2 HA2;clear y0 y1 y2 y3 ae;go_step3
     exact⟨rfl,⟨k+a.2,E,F,P,_,_,_,_,_,_,_,_,_,_,_,_,_,_,_,_,_,_,_,_,_,_,_,_,_,_,_,_,_,_,_,_,_,_,_,_,_,_,_,_,_,_,_,_,_,_,_,_,_,_,_,_,_,rfl,by go_num,hle,HR2,J,HA2,ab,I⟩,by simp[intOf];omega⟩
  .obtain rfl:k=s.size:=qo;have n:=aA (Wv t.o);have q:Hid (NI ⟨7,s.size,0,bs []⟩):=aA ⟨by unfold bL;show -9223372036854775808<=(7:Int)/\(7:Int)<=9223372036854775807;omega,by unfold bL;show -9223372036854775808<=(s.size:Int)/\(s.size:Int)<=9223372036854775807;omega,by unfold bL;show -9223372036854775808<=(0:Int)/\(0:Int)<=9223372036854775807;omega,Nat.zero_le _⟩;have af:out.length<=999999:=qA d.o.len;have X:w.heap.size<wr.heap.size:=(Array.getElem?_eq_some_iff.1 HT.o).1;have g:=aB wr (.cells #[.int .i64 7,.int .i64 s.size,.int .i64 0,.string ⟨#[]⟩] 130);obtain⟨i,p,M⟩:=aZ (HO.o.on iC g) g (heap_alloc_new wr (.cells #[.int .i64 7,.int .i64 s.size,.int .i64 0,.string ⟨#[]⟩] 130));clear g t d HO;go_wp2_with (at_builtin;refine cC Zy iC rfl (.tmp 16) (.tmp 19) rfl _ out rfl i.o wr.heap.size 1 _ _ _ ⟨7,s.size,0,bs []⟩ rfl M.o ⟨rfl,q.o⟩ qo qo (by rw[World.size_alloc];omega) ?_;intro E z F P w3 o j Q;have J:=aA o;have I:=aA (i.o.below (aC HB.o p.o) j qo (by rw[World.size_alloc];omega));have ag:E.length<=1000000:=(by rw[z.o,aL,List.length_singleton];have:=q.o;omega);clear o j Q)
   simp only[Exit.jump];go_ret3
   refine⟨.slice F E.length P,by rw[n.o];rfl,?_,I.o⟩;rw[n.o,<-z.o];exact J.o.sl ag _ (fun b h _=>by have:w.heap.size<b:=h;show w.heap.size<=b;omega) (fun b h _=>by show w.heap.size<=b;omega) iC
 .intro hp;have HP:=aA hp;clear hp;have aa:=aA (Jt s W);go_upto_region 6 with (fail)
  rename_i K hK;refine wp_label (hK _ _ (HP.o _ _ ⟨0,[],none,0,0,0,0,⟨#[]⟩,_,_,_,_,_,_,_,_,_,_,_,_,_,_,_,_,_,_,_,_,_,_,_,_,_,_,_,_,_,_,_,_,_,_,_,_,_,_,_,_,_,_,_,_,_,_,_,_,_,rfl,rfl,Nat.zero_le _,aa,aA aM.nil,aA (pT.nil 0),aA (heap_alloc_new w _),aA (aB w _)⟩))
end Go.Proofs.YthcgdgkpgdjahaaGreatDoor
