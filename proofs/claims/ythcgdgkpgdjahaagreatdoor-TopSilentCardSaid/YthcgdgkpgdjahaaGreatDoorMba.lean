/- Lemmas. -/
import Derived.Test.YthcgdgkpgdjahaaGreatDoorMaz
namespace Go.Proofs.YthcgdgkpgdjahaaGreatDoor
open Go.RowKit
set_option linter.unusedVariables false
set_option linter.unusedSimpArgs false
set_option maxHeartbeats 16000000
open _root_.Go.Proofs.Tryz
set_option maxRecDepth 20000
theorem QBf{p:Prop}(h:p:=by
 go_wp2_with fail;refine(HLM.o true q hq _ HP1.o).mono ?_;rintro e w2 ⟨rfl,h_,k_⟩;have HP2:=aA h_;have HK2:=aA (HK1.o.aD5 k_);have HG2:=aA (HG1.o.aD5 (bC (n+1)) k_ hgl);clear h_ k_;obtain⟨A_,c_,c0,c1,c2,c3,c4,hs_⟩:=HP2.o.cells;have hg2:=HP2.o.lt;clear hs_ c0 c1 c2 c4;go_wp2;go_ret;refine⟨_,rfl,?_,?_,HK2.o.end⟩
 .rw[HS.o];exact HG2.o.sl qo _ (fun b hb _=>hb) (fun b hb _=>hb) (bC (n+1))
 .rw[HS.o];exact HP2.o):p:=h
theorem Ur{p:Prop}(h:p:=by
 go_wp2_with fail;refine(HLM.o true q hq _ HP1.o).mono ?_;rintro e w2 ⟨rfl,h_,k_⟩;have HP2:=aA h_;have HK2:=aA (HK1.o.aD5 k_);have HG2:=aA (HG1.o.aD5 (bC 0) k_ hgl);clear h_ k_;obtain⟨A_,c_,c0,c1,c2,c3,c4,hs_⟩:=HP2.o.cells;have hg2:=HP2.o.lt;clear hs_ c0 c1 c2 c4;go_wp2;go_ret;refine⟨_,rfl,?_,?_,HK2.o.end⟩
 .rw[HS.o];exact HG2.o.sl qo _ (fun b hb _=>hb) (fun b hb _=>hb) (bC 0)
 .rw[HS.o];exact HP2.o):p:=h
theorem QAh{p:Prop}(h:p:=by
 have HLF:=aA (HLM.o false q hq w1 HP1.o);rw[hlf] at HLF;clear HLM hlf;go_wp2_with fail;refine HLF.o.mono ?_;rintro e w3 ⟨rfl,h_,k_⟩;have HP3:=aA h_;have HK3:=aA (HK1.o.aD5 k_);have HG3:=aA (HG1.o.aD5 (bC (n+1)) k_ hgl);clear h_ k_ HLF HP1 HK1 HG1;obtain⟨A_,c_,c0,c1,c2,c3,c4,hs_⟩:=HP3.o.cells;have hg3:=HP3.o.lt;rw[hqb] at c3;clear hs_ c0 c1 c2 c4;unfold wU at HCX;go_wp2_with fail;refine(HCX.o _ hq hru2 HP3.o).mono ?_;rintro e w4 ⟨vt,vr,vk,vo,rfl,hs_,h_,k_⟩;obtain⟨ta,tc,rfl,_⟩:=hs_.2.2.1.slice;obtain⟨ra,rc,rfl,_⟩:=hs_.2.2.2.1.slice;obtain⟨ka,kc,rfl,_⟩:=hs_.2.2.2.2.1.slice;obtain⟨oa,oc,rfl,_⟩:=hs_.2.2.2.2.2.slice;have HP4:=aA h_;have HK4:=aA (HK3.o.aD5 k_);have HG4:=aA (HG3.o.aD5 (bC (n+1)) k_ hgl);have HSX:=aA hs_;have hz3:w.heap.size<=w3.heap.size:=HK3.o.size;have HGO:=aA (fun b e=>(HG3.o.lt b e).2);clear hs_ h_ k_ HCX HP3 HK3 HG3 c3;have hz4:w.heap.size<=w4.heap.size:=HK4.o.size;have HX:=aA (aB w4 (.cells (kR r2.1 ta tc ra rc ka kc oa oc) 60));have HXN:=aA (aK w4 (.cells (kR r2.1 ta tc ra rc ka kc oa oc) 60) _ rfl);have HGX:=aA (HG4.o.on (bC (n+1)) HX.o);have HPX:=aA (HP4.o.on HX.o);have HKX:=aA (HK4.o.new HX.o);have HSY:=aA (fO.to_ (fO.more (fO.aDW (fO.inb HSX.o) (aJ HX.o)) (ok':=fun b=>w.heap.size<=b/\b<(w4.alloc (.cells (kR r2.1 ta tc ra rc ka kc oa oc) 60)).heap.size/\some b≠(Value.slice A l.length c).ownBlock) (fun b hb'=>by
  have h1:=hb'.1;have h2:=hb'.2;have h3:w3.heap.size<=b:=h1;refine⟨qo,by rw[World.size_alloc];omega,fun e=> ?_⟩;have:=HGO.o b e.symm;omega)))
 go_wp2_with (at_builtin;refine cC aDt (bC (n+1)) rfl (.tmp 26) (.tmp 30) rfl _ l rfl HGX.o w4.heap.size 1 _ _ _ r2.1 rfl HXN.o HSY.o qo qo (by rw[World.size_alloc];omega) ?_;intro l' hl' A' c' w9 hG hgr hat';have HG5:=aA hG;have HP5:=aA (HPX.o.grown HGX.o hgr hgl);have HK5:=aA (HKX.o.grown HGX.o hgr (lR _));clear hG hgr hat' HX HXN HGX HPX HKX HSX HSY HG4 HP4 HK4)
 rw[<-hl'.o] at HS;have HL2:Hid (l'.length=l.length+1):=aA (by rw[hl'.o,aL,List.length_singleton]);go_roundg f'
 case measure=>rw[HF.o];omega
 case rel=>exact⟨l',_,A',c',rfl,aA ⟨HS.o,hq2,qA HF.o,qA HL2.o,hru3,HG5.o,HP5.o,HK5.o⟩⟩):p:=h
def AZ(L:List Tok):Prop:=∀t∈L,t.aDN=6->t.str.size=1
theorem QL{L:List Tok}(T:Toks L)(M:AZ L)(n:Nat){q:PS}(d:q.at_<L.length)(a:(cM L (str "policy") q||cM L (str "set") q)=true):q.at_<(cP L n q).2.at_:=by
 have hw:(bA L [str "policy",str "set"] q).2.at_=q.at_+1:=by
  have key:∀(s:bY),s.size≠1->(s=str "policy"\/s=str "set")->cM L s q=true->(bA L [str "policy",str "set"] q).2.at_=q.at_+1:=by
   intro s b f a;have c:=lS a;have e:(aU L q).aDN=1:=by
    rcases c.2.2 with h|h
    .exact h
    .exfalso;have:=M (aU L q) (by rw[FB d];exact List.getElem_mem _) h;rw[c.2.1] at this;exact b this
   unfold bA;dsimp only;rw[iP];refine⟨e,?_,by rw[c.2.1];exact a⟩;rw[c.2.1]
   rcases f with rfl|rfl
   .rw[List.findIdx_cons];simp
   .rw[List.findIdx_cons];by_cases h:str "policy"=str "set"
    .simp[h]
    .rw[dF h];simp[List.findIdx_cons]
  rw[Bool.or_eq_true] at a
  rcases a with a|a
  .exact key _ (by rw[wH];decide) (.inl rfl) a
  .exact key _ (by rw[KO];decide) (.inr rfl) a
 have h1:=dR T [str "policy",str "set"] d;have hm:dK L (bA L [str "policy",str "set"] q).2 (cP L n q).2:=by
  have h2:=jK T h1.lt;have h3:=dR T dE h2.lt;have h4:=mB T h3.lt;have h5:=gD T rL h4.lt;have h15:=h2.trans (h3.trans (h4.trans h5))
  cases n with
  |zero=>
   unfold cP;dsimp only;by_cases b:decide ((bA L [str "policy",str "set"] q).1=2)=true
   .rw[iP b];have h6:=rF (one:=fun q=>(mK,q)) (fun h=>dK.refl h) true L.length [] h5.lt;exact PI
   .rw[iN b];have h6:=tF T L.length [] h5.lt;exact PI
  |succ n=>
   unfold cP;dsimp only;by_cases b:decide ((bA L [str "policy",str "set"] q).1=2)=true
   .rw[iP b];have h6:=rF (one:=cP L n) (sE T n) false L.length [] h5.lt;exact PI
   .rw[iN b];have h6:=tF T L.length [] h5.lt;exact PI
 have:=hm.le;omega
def wU(n:Nat)(L:List Tok)(g:Nat)(w:World)(p:Po)(p':PS)(e:Ending)(w':World):Prop:=
 ∃vt vr vk vo,e=.returned (.agg #[.string p.id,.bool p.set,.int .i64 p.alg,vt,vr,vk,vo])/\fO n w' (fun b=>w.heap.size<=b) p vt vr vk vo/\PW L w' g p'/\aN (fun b=>b≠g) w w'
def aAl(L:List Tok)(n:Nat):Prop:=∀(d:Int),d=4 - (n:Int)->∀p g w,p.at_<L.length->p.aDR<=64->PW L w g p->
 Calls prog 74 #[.pointer (some ⟨g,0,none⟩),.int .i64 d] w (wU n L g w (cP L n p).1 (cP L n p).2)
def Us(n:Nat)(L:List Tok)(one:PS->Po×PS)(deep:Bool)(g:Nat)(w:World)(res:List Po×PS)(f:Nat)(v:Value)(wr:World):Prop:=
 ∃(l:List Po) (q:PS) (A:oD) (c:Nat),v=.slice A l.length c/\Hid (Bv (qR n) 7 60 L g w f v wr l q (gS L one deep f l q=res))
section
variable {L:List Tok} {one:PS->Po×PS} {deep:Bool} {f:Nat} {l:List Po} {q:PS} {res:List Po×PS}
theorem QM(h:gS L one deep f l q=res)(h1:cM L (str "policy") q=false)(h2:cM L (str "set") q=false):res=(l,q):=by
 cases f with
 |zero=>exact h.symm
 |succ f=>unfold gS at h;rw[iN (by rw[h1,h2];decide)] at h;exact h.symm
theorem QN(h:gS L one deep f l q=res)(c:0<f)(h1:(cM L (str "policy") q||cM L (str "set") q)=true)(h2:(decide (l.length=16)||deep)=true):res=(l,cR L true q)/\(cR L true q).bad≠0:=by
 have b:(cR L true q).bad≠0:=by unfold cR;rw[iP rfl];exact mA 6 _ qe q
 obtain⟨a,rfl⟩:∃a,f=a+1:=⟨f - 1,qo⟩;unfold gS at h;rw[iP h1] at h;dsimp only at h;rw[h2,iP b] at h;exact⟨h.symm,b⟩
theorem QO(h:gS L one deep f l q=res)(b:0<f)(hq:q.bad=0)(h1:(cM L (str "policy") q||cM L (str "set") q)=true)(h2:(decide (l.length=16)||deep)=false):
 ∃a,f=a+1/\gS L one deep a (l++[(one q).1]) (one q).2=res:=by
 obtain⟨a,rfl⟩:∃a,f=a+1:=⟨f - 1,qo⟩;refine⟨a,rfl,?_⟩;unfold gS at h;exact QCq
end
theorem aDt:dZ prog 57 60 7 128:=fR (z:= .agg #[.string ByteArray.empty,.bool false,.int .i64 0,.slice none 0 0,.slice none 0 0,.slice none 0 0,.slice none 0 0]) underlying57 (by kernel_rfl) rfl qe
theorem fO.to_{n:Nat}{w:World}{ok:nP}{p:Po}{vt vr vk vo:Value}(h:fO n w ok p vt vr vk vo):qR (n+1) w ok [.string p.id,.bool p.set,.int .i64 p.alg,vt,vr,vk,vo] p:=⟨vt,vr,vk,vo,rfl,h.1,h.2.1,h.2.2.1,h.2.2.2.1,h.2.2.2.2.1,h.2.2.2.2.2⟩
theorem Le{L:List Tok}{p:PS}(T:Toks L)(M:AZ L)(d:Int)(G:d=5)(hp:p.at_<L.length)(hru:p.aDR<=64)(g:Nat)(w:World)(h:PW L w g p):
 Calls prog 136 #[.pointer (some ⟨g,0,none⟩),.int .i64 d] w (iL (qR 0) L g w (gS L (fun q=>(mK,q)) true L.length [] p).1 (gS L (fun q=>(mK,q)) true L.length [] p).2):=by
 have J:=T.len;have hgl:=h.lt;have HP:=aA h;have E:=aA (fun (s:bY) (q:PS) (hq:q.at_<L.length) w h=>pA s hq J g w h);have HLM:=aA (fun b (q:PS) (hq:q.at_<L.length) w h=>lA b hq J g w h);have Q:decide (d > 4)=true:=by rw[G];simp
 have P:=aA G;obtain⟨res,H⟩:=xE (gS L (fun q=>(mK,q)) true L.length [] p);have HR0:Hid (gS L (fun q=>(mK,q)) true L.length [] p=res):=aA H.symm;rw[<-H];unfold iL;clear h H G;have HK:=aA (cZ.refl w.heap.size g w);go_enter func136,ntmps136;go_wp2;go_loopg [5] L.length (fun f v wr=>Us 0 L (fun q=>(mK,q)) true g w res f v wr)
 case atStart=>exact QBV
 case round=>
  clear HR0 HP HK;obtain⟨l,q,A,c,rfl,i⟩:=hrel;have hq:=i.o.at_;have S:=i.o.aDR;have R:=i.o.fuel;have hle:=i.o.len;have K:0<gk:=qo;have hlen:l.length<=5000:=qo;have m:=aA (E.o (str "policy") q hq);have x:=aA (E.o (str "set") q hq);clear E;have y:=aA (fun h1 h2=>QM i.o.res h1 h2);have o:=aA (fun h1 h2=>QN i.o.res K h1 h2);have B:=aA (fun hb h1 h2=>QO i.o.res K hb h1 h2);have z:=aA (fun h=>QL T M 0 hq h);rw[wH] at m y o B z;rw[KO] at x y o B z;have C:=aA (fun h=>(lS (L:=L) (s:=⟨#[112,111,108,105,99,121]⟩) (p:=q) h));have D:=aA (fun h=>(lS (L:=L) (s:=⟨#[115,101,116]⟩) (p:=q) h));generalize cM L ⟨#[112,111,108,105,99,121]⟩ q=O at *;generalize cM L ⟨#[115,101,116]⟩ q=N at *
  cases O
  .cases N
   .have HS:=aA (y.o rfl rfl);clear y o B C D z;go_wp2_with fail;refine(m.o _ i.o.pw).mono ?_;rintro e w1 ⟨rfl,a⟩;obtain⟨HP1,HK1,HG1⟩:=aZ (i.o.pw.on a) (i.o.aDW.new a) (i.o.row.on (bC 0) a);clear a m;go_wp2_with fail;refine(x.o _ HP1.o).mono ?_;rintro e w2 ⟨rfl,a⟩;obtain⟨HP2,HK2,HG2⟩:=aZ (HP1.o.on a) (HK1.o.new a) (HG1.o.on (bC 0) a);clear a x;go_wp2;go_ret;refine⟨_,rfl,?_,?_,HK2.o.end⟩
    .rw[HS.o];exact HG2.o.sl qo _ (fun b hb _=>hb) (fun b hb _=>hb) (bC 0)
    .rw[HS.o];exact HP2.o
   .by_cases h16:l.length=16
    .have i16:((l.length:Int)==16)=true:=bQ.2 qo;obtain⟨r,t⟩:=o.o qs (by rw[dX h16];simp);have HS:=aA r;have F:((cR L true q).bad != 0)=true:=bne_iff_ne.2 t;clear r t y o B C D z;clear h16;go_wp2_with fail;refine(m.o _ i.o.pw).mono ?_;rintro e w0 ⟨rfl,a⟩;obtain⟨j,n,k⟩:=aZ (i.o.pw.on a) (i.o.aDW.new a) (i.o.row.on (bC 0) a);clear a m;go_wp2_with fail;refine(x.o _ j.o).mono ?_;rintro e w1 ⟨rfl,a⟩;obtain⟨HP1,HK1,HG1⟩:=aZ (j.o.on a) (n.o.new a) (k.o.on (bC 0) a);clear a x j n k;exact Ur
    .have i16:((l.length:Int)==16)=false:=bN.2 qo;obtain⟨r,t⟩:=o.o qs qs;have HS:=aA r;have F:((cR L true q).bad != 0)=true:=bne_iff_ne.2 t;clear r t y o B C D z;clear h16;go_wp2_with fail;refine(m.o _ i.o.pw).mono ?_;rintro e w0 ⟨rfl,a⟩;obtain⟨j,n,k⟩:=aZ (i.o.pw.on a) (i.o.aDW.new a) (i.o.row.on (bC 0) a);clear a m;go_wp2_with fail;refine(x.o _ j.o).mono ?_;rintro e w1 ⟨rfl,a⟩;obtain⟨HP1,HK1,HG1⟩:=aZ (j.o.on a) (n.o.new a) (k.o.on (bC 0) a);clear a x j n k;exact Ur
  .by_cases h16:l.length=16
   .have i16:((l.length:Int)==16)=true:=bQ.2 qo;obtain⟨r,t⟩:=o.o qs (by rw[dX h16];simp);have HS:=aA r;have F:((cR L true q).bad != 0)=true:=bne_iff_ne.2 t;clear r t y o B C D z;clear h16;go_wp2_with fail;refine(m.o _ i.o.pw).mono ?_;rintro e w0 ⟨rfl,a⟩;obtain⟨j,n,k⟩:=aZ (i.o.pw.on a) (i.o.aDW.new a) (i.o.row.on (bC 0) a);clear a m;have HP1:=j;have HK1:=n;have HG1:=k;clear j n k x;obtain⟨w1,I⟩:=xE w0;subst I;exact Ur
   .have i16:((l.length:Int)==16)=false:=bN.2 qo;obtain⟨r,t⟩:=o.o qs qs;have HS:=aA r;have F:((cR L true q).bad != 0)=true:=bne_iff_ne.2 t;clear r t y o B C D z;clear h16;go_wp2_with fail;refine(m.o _ i.o.pw).mono ?_;rintro e w0 ⟨rfl,a⟩;obtain⟨j,n,k⟩:=aZ (i.o.pw.on a) (i.o.aDW.new a) (i.o.row.on (bC 0) a);clear a m;have HP1:=j;have HK1:=n;have HG1:=k;clear j n k x;obtain⟨w1,I⟩:=xE w0;subst I;exact Ur
theorem Lf{L:List Tok}{p:PS}(T:Toks L)(M:AZ L){n:Nat}(Z:n<=3)(hC:aAl L n)(d:Int)(K:d=4 - (n:Int))(hp:p.at_<L.length)(hru:p.aDR<=64)(g:Nat)(w:World)(h:PW L w g p):
 Calls prog 136 #[.pointer (some ⟨g,0,none⟩),.int .i64 d] w (iL (qR (n+1)) L g w (gS L (cP L n) false L.length [] p).1 (gS L (cP L n) false L.length [] p).2):=by
 have Q:=T.len;have hgl:=h.lt;have HP:=aA h;have J:=aA (fun (s:bY) (q:PS) (hq:q.at_<L.length) w h=>pA s hq Q g w h);have HLM:=aA (fun b (q:PS) (hq:q.at_<L.length) w h=>lA b hq Q g w h);have I:=aA hC;have X:decide (d > 4)=false:=by rw[K];simp;omega
 have P:=aA K;obtain⟨res,N⟩:=xE (gS L (cP L n) false L.length [] p);have HR0:Hid (gS L (cP L n) false L.length [] p=res):=aA N.symm;rw[<-N];unfold iL;clear h N K;have HK:=aA (cZ.refl w.heap.size g w);go_enter func136,ntmps136;go_wp2;go_loopg [5] L.length (fun f v wr=>Us (n+1) L (cP L n) false g w res f v wr)
 case atStart=>exact QBV
 case round=>
  clear HR0 HP HK;obtain⟨l,q,A,c,rfl,i⟩:=hrel;have hq:=i.o.at_;have hru2:=i.o.aDR;have Y:=i.o.fuel;have hle:=i.o.len;have R:0<gk:=qo;have hlen:l.length<=5000:=qo;have m:=aA (J.o (str "policy") q hq);have r:=aA (J.o (str "set") q hq);clear J;have z:=aA (fun h1 h2=>QM i.o.res h1 h2);have x:=aA (fun h1 h2=>QN i.o.res R h1 h2);have y:=aA (fun hb h1 h2=>QO i.o.res R hb h1 h2);have t:=aA (fun h=>QL T M n hq h);rw[wH] at m z x y t;rw[KO] at r z x y t;have C:=aA (fun h=>(lS (L:=L) (s:=⟨#[112,111,108,105,99,121]⟩) (p:=q) h));have D:=aA (fun h=>(lS (L:=L) (s:=⟨#[115,101,116]⟩) (p:=q) h));generalize cM L ⟨#[112,111,108,105,99,121]⟩ q=W at *;generalize cM L ⟨#[115,101,116]⟩ q=V at *
  cases W
  .cases V
   .have HS:=aA (z.o rfl rfl);clear z x y C D t;go_wp2_with fail;refine(m.o _ i.o.pw).mono ?_;rintro e w1 ⟨rfl,a⟩;obtain⟨HP1,HK1,HG1⟩:=aZ (i.o.pw.on a) (i.o.aDW.new a) (i.o.row.on (bC (n+1)) a);clear a m;go_wp2_with fail;refine(r.o _ HP1.o).mono ?_;rintro e w2 ⟨rfl,a⟩;obtain⟨HP2,HK2,HG2⟩:=aZ (HP1.o.on a) (HK1.o.new a) (HG1.o.on (bC (n+1)) a);clear a r;go_wp2;go_ret;refine⟨_,rfl,?_,?_,HK2.o.end⟩
    .rw[HS.o];exact HG2.o.sl qo _ (fun b hb _=>hb) (fun b hb _=>hb) (bC (n+1))
    .rw[HS.o];exact HP2.o
   .by_cases h16:l.length=16
    .have i16:((l.length:Int)==16)=true:=bQ.2 qo;obtain⟨E,F⟩:=x.o qs (by rw[dX h16];simp);have HS:=aA E;have S:((cR L true q).bad != 0)=true:=bne_iff_ne.2 F;clear E F z x y C D t;clear h16;go_wp2_with fail;refine(m.o _ i.o.pw).mono ?_;rintro e w0 ⟨rfl,a⟩;obtain⟨j,o,k⟩:=aZ (i.o.pw.on a) (i.o.aDW.new a) (i.o.row.on (bC (n+1)) a);clear a m;go_wp2_with fail;refine(r.o _ j.o).mono ?_;rintro e w1 ⟨rfl,a⟩;obtain⟨HP1,HK1,HG1⟩:=aZ (j.o.on a) (o.o.new a) (k.o.on (bC (n+1)) a);clear a r j o k;exact QBf
    .have i16:((l.length:Int)==16)=false:=bN.2 qo;have hqb:q.bad=0:=(D.o rfl).1;obtain⟨f',G,H⟩:=y.o hqb qs (by rw[dF h16];rfl);have HF:=aA G;have U:=t.o qs;have B:=sE T n hq;have hru3:=B.aEz hru2;have hq2:=B.lt;have HS:=aA H;have HCX:=aA (I.o d P.o q g);have hlf:cR L false q=q:=by unfold cR;rw[iN qe]
     clear G H z x y C D t h16 B I;generalize cP L n q=r2 at *;go_wp2_with fail;refine(m.o _ i.o.pw).mono ?_;rintro e w0 ⟨rfl,a⟩;obtain⟨j,o,k⟩:=aZ (i.o.pw.on a) (i.o.aDW.new a) (i.o.row.on (bC (n+1)) a);clear a m;go_wp2_with fail;refine(r.o _ j.o).mono ?_;rintro e w1 ⟨rfl,a⟩;obtain⟨HP1,HK1,HG1⟩:=aZ (j.o.on a) (o.o.new a) (k.o.on (bC (n+1)) a);clear a r j o k;exact QAh
  .by_cases h16:l.length=16
   .have i16:((l.length:Int)==16)=true:=bQ.2 qo;obtain⟨E,F⟩:=x.o qs (by rw[dX h16];simp);have HS:=aA E;have S:((cR L true q).bad != 0)=true:=bne_iff_ne.2 F;clear E F z x y C D t;clear h16;go_wp2_with fail;refine(m.o _ i.o.pw).mono ?_;rintro e w0 ⟨rfl,a⟩;obtain⟨j,o,k⟩:=aZ (i.o.pw.on a) (i.o.aDW.new a) (i.o.row.on (bC (n+1)) a);clear a m;have HP1:=j;have HK1:=o;have HG1:=k;clear j o k r;obtain⟨w1,O⟩:=xE w0;subst O;exact QBf
   .have i16:((l.length:Int)==16)=false:=bN.2 qo;have hqb:q.bad=0:=(C.o rfl).1;obtain⟨f',G,H⟩:=y.o hqb qs (by rw[dF h16];rfl);have HF:=aA G;have U:=t.o qs;have B:=sE T n hq;have hru3:=B.aEz hru2;have hq2:=B.lt;have HS:=aA H;have HCX:=aA (I.o d P.o q g);have hlf:cR L false q=q:=by unfold cR;rw[iN qe]
    clear G H z x y C D t h16 B I;generalize cP L n q=r2 at *;go_wp2_with fail;refine(m.o _ i.o.pw).mono ?_;rintro e w0 ⟨rfl,a⟩;obtain⟨j,o,k⟩:=aZ (i.o.pw.on a) (i.o.aDW.new a) (i.o.row.on (bC (n+1)) a);clear a m;have HP1:=j;have HK1:=o;have HG1:=k;clear j o k r;obtain⟨w1,O⟩:=xE w0;subst O;exact QAh
theorem Fj(l:lU)(h:(bZ l).1.aDN=6):(bZ l).1.str.size=1:=by
 unfold bZ at h ⊢
 repeat' split at h
 all_goals first
  |(exfalso;simp at h;done)
  |(simp[*,cH];done)
theorem yE:∀(f:Nat) (l:lU) (k:Nat) (out:List Tok),(∀t∈out,t.aDN=6->t.str.size=1)->(jQ f l k out).2.1=0->AZ (jQ f l k out).1
 |0,l,k,out,_,h=>absurd h (by simp[jQ])
 |f+1,[],k,out,ha,_=>by
  simp only[jQ];intro t a b
  rcases List.mem_append.1 a with a|a
  .exact ha t a b
  .rw[List.mem_singleton] at a;subst a;exact absurd b qs
 |f+1,c::r,k,out,ha,h=>by
  unfold jQ at h ⊢;dsimp only at h ⊢;by_cases h1:c.toNat=32\/c.toNat=10
  .rw[iP h1] at h ⊢;exact yE f r (k+1) out ha h
  .rw[iN h1] at h ⊢;by_cases h2:(bZ (c::r)).2=0
   .rw[iP h2] at h;exact absurd h qs
   .rw[iN h2] at h ⊢;refine yE f _ _ _ (fun t a b=> ?_) h
    rcases List.mem_append.1 a with a|a
    .exact ha t a b
    .rw[List.mem_singleton] at a;subst a;exact Fj (c::r) b
theorem Lg{l:lU}(h:(jU l).2.1=0):AZ (jU l).1:=by
 unfold jU at h ⊢;by_cases h1:4096<l.length
 .rw[iP h1] at h;exact absurd h qs
 .rw[iN h1] at h ⊢;exact yE _ _ _ _ qs h
theorem QCv{p:Prop}(h:p:=by
 exact((((((((HP.o.set qo).set qo).set qo).set qo).set qo).set qo).set qo).set qo)):p:=h
theorem QCm{p:Prop}(h:p:=by
 exact cZ.end (((((((((HK.o.set qo).set qo).set qo).set qo).set qo).set qo).set qo).set qo))):p:=h
theorem QAQ{p:Prop}(h:p:=by
 exact aH.more aO (aH.set aO (aH.set aO (aH.set aO (aH.set aO (aH.set aO (aH.set aO (aH.set aO (aH.set aO (HSo.o) qh) qh) qh) qh) qh) qh) qh) qh) (fun b hb=>by have:=hb.1;show w.heap.size<=b;omega)):p:=h
theorem QAP{p:Prop}(h:p:=by
 exact aH.more aS (aH.set aS (aH.set aS (aH.set aS (aH.set aS (aH.set aS (aH.set aS (aH.set aS (aH.set aS (HSt.o) qh) qh) qh) qh) qh) qh) qh) qh) (fun b hb=>by have:=hb.1;show w.heap.size<=b;omega)):p:=h
def vN(L:List Tok):Nat->PS->List Po×PS
 |0,p=>gS L (fun q=>(mK,q)) true L.length [] p
 |n+1,p=>gS L (cP L n) false L.length [] p
theorem Fk(L:List Tok)(n:Nat)(p:PS)(h:(bA L [str "policy",str "set"] p).1=2):cP L n p=
 (.mk (bT L (bA L [str "policy",str "set"] p).2).1 true (bA L dE (bT L (bA L [str "policy",str "set"] p).2).2).1 (bU L (bA L dE (bT L (bA L [str "policy",str "set"] p).2).2).2).1 [] (vN L n (eN L rL (bU L (bA L dE (bT L (bA L [str "policy",str "set"] p).2).2).2).2)).1 (gR L (eN L yM (vN L n (eN L rL (bU L (bA L dE (bT L (bA L [str "policy",str "set"] p).2).2).2).2)).2)).1,
  (gR L (eN L yM (vN L n (eN L rL (bU L (bA L dE (bT L (bA L [str "policy",str "set"] p).2).2).2).2)).2)).2):=by
 cases n with
 |zero=>
  unfold cP vN;dsimp only;rw[dX h,iP rfl]
 |succ n=>
  unfold cP vN;dsimp only;rw[dX h,iP rfl]
theorem WH(L:List Tok)(n:Nat)(p:PS)(h:(bA L [str "policy",str "set"] p).1≠2):cP L n p=
 (.mk (bT L (bA L [str "policy",str "set"] p).2).1 false (bA L dE (bT L (bA L [str "policy",str "set"] p).2).2).1 (bU L (bA L dE (bT L (bA L [str "policy",str "set"] p).2).2).2).1 (iK L L.length [] (eN L rL (bU L (bA L dE (bT L (bA L [str "policy",str "set"] p).2).2).2).2)).1 [] (gR L (eN L yM (iK L L.length [] (eN L rL (bU L (bA L dE (bT L (bA L [str "policy",str "set"] p).2).2).2).2)).2)).1,
  (gR L (eN L yM (iK L L.length [] (eN L rL (bU L (bA L dE (bT L (bA L [str "policy",str "set"] p).2).2).2).2)).2)).2):=by
 cases n with
 |zero=>
  unfold cP;dsimp only;rw[dF h,iN qe]
 |succ n=>
  unfold cP;dsimp only;rw[dF h,iN qe]
theorem Lh{L:List Tok}(T:Toks L)(n:Nat){p:PS}(h:p.at_<L.length):dK L p (vN L n p).2:=by
 cases n with
 |zero=>exact rF (one:=fun q=>(mK,q)) (fun h=>dK.refl h) true L.length [] h
 |succ n=>exact rF (one:=cP L n) (sE T n) false L.length [] h
def Rl(L:List Tok)(n:Nat):Prop:=∀(d:Int),d=5 - (n:Int)->∀p g w,p.at_<L.length->p.aDR<=64->PW L w g p->
 Calls prog 136 #[.pointer (some ⟨g,0,none⟩),.int .i64 d] w (iL (qR n) L g w (vN L n p).1 (vN L n p).2)
abbrev alW:Array Value:=#[.string ⟨#[100,101,110,121,111,118,101,114]⟩,.string ⟨#[112,101,114,109,105,116,111,118,101,114]⟩,.string ⟨#[102,105,114,115,116]⟩,.string ⟨#[111,110,108,121]⟩,.string ⟨#[100,101,110,121,117,110,108,101,115,115]⟩,.string ⟨#[112,101,114,109,105,116,117,110,108,101,115,115]⟩]
theorem IG{L:List Tok}{n:Nat}(hn:n<=3)(T:Toks L)(S:Rl L n){p:PS}(d:Int)(hd:d=4 - (n:Int))(hp:p.at_<L.length)(af:p.aDR<=64)(g:Nat)(w:World)(h:PW L w g p)(Q:(bA L [str "policy",str "set"] p).1=2):
 Calls prog 74 #[.pointer (some ⟨g,0,none⟩),.int .i64 d] w (wU n L g w (cP L n p).1 (cP L n p).2):=by
 have hL:=T.len;have aq:=h.lt;have HP:=aA h;have m1:=dR T [str "policy",str "set"] hp;have m2:=jK T m1.lt;have m3:=dR T dE m2.lt;have m4:=mB T m3.lt;have m5:=gD T rL m4.lt;have m15:=m1.trans (m2.trans (m3.trans (m4.trans m5)));have U:=m15.aEz af;have m6:=Lh T n m5.lt;have m7:=gD T yM m6.lt;have I:=aA (fun a c w h hw=>nL T [str "policy",str "set"] a c 2 rfl qe hp g w h hw);have R:=aA (fun w h=>rP T m1.lt g w h);have J:=aA (fun a c w h hw=>nL T dE a c 6 rfl qe m2.lt g w h hw);have P:=aA (fun w h=>tZ T m3.lt g w h);have O:=aA (fun w h=>mO T rL m4.lt g w h);have K:=aA (fun w h=>S (d+1) qo (eN L rL (bU L (bA L dE (bT L (bA L [str "policy",str "set"] p).2).2).2).2) g w m5.lt U h);have N:=aA (fun w h=>mO T yM m6.lt g w h);have M:=aA (fun w h=>vL T m7.lt g w h);have ab:=aA (rT T m1.lt);have aa:=aA (nY (L:=L) dE (bT L (bA L [str "policy",str "set"] p).2).2);have d1:1<=d:=qo;have d2:d<=4:=qo;rw[Fk L n p Q];unfold wU;unfold iL at P M K;clear h m1 m2 m3 m4 m5 m6 m7 m15 U S hd;generalize bA L [str "policy",str "set"] p=V at *;generalize bT L V.2=W at *;generalize bA L dE W.2=H at *;generalize bU L H.2=X at *;generalize eN L rL X.2=p5 at *;generalize vN L n p5=Y at *;generalize eN L yM Y.2=p7 at *;generalize gR L p7=r8 at *;rw[wH,KO] at I;rw[show dE=[⟨#[100,101,110,121,111,118,101,114]⟩,⟨#[112,101,114,109,105,116,111,118,101,114]⟩,⟨#[102,105,114,115,116]⟩,⟨#[111,110,108,121]⟩,⟨#[100,101,110,121,117,110,108,101,115,115]⟩,⟨#[112,101,114,109,105,116,117,110,108,101,115,115]⟩] from by kernel_rfl] at J
 rw[TZ] at O;rw[UA] at N;have ao:(V.1==2)=true:=bQ.2 Q;clear Q;dsimp only;go_enter func74,ntmps74;have HK:=aA (cZ.refl w.heap.size g w);go_wp2_with fail;refine(I.o _ _ _ (HP.o.alloc.alloc.alloc) (nM _ _ _ _ _ qs rfl)).mono ?_;rintro e w1 ⟨rfl,k,f⟩;obtain⟨j,i,l,HK,HP⟩:=gJ (aF (aE (aE (aK _ _ _ qs) (aB _ _)) (aB _ _)) f qo:w1.heap[w.heap.size]? =some (.cells wN 60 (0,0))) (aF (aE (aK _ _ _ qs) (aB _ _)) f qo:w1.heap[w.heap.size+1]? =some (.cells wN 60 (0,0))) (aF (aK _ _ _ qs) f qo:w1.heap[w.heap.size+2]? =some (.cells #[.string ⟨#[112,111,108,105,99,121]⟩,.string ⟨#[115,101,116]⟩] 9 (0,0))) (HK.o.alloc.alloc.alloc.aD5 f) k;clear k f;have bf:=aD j.o;have bp:=aD i.o;have ar:=aD l.o;have bz:=HP.o.lt;clear I;obtain⟨⟨o,q,r,s,t,v,x⟩,y,z,A,B,C,D,E⟩:=bI i.o;go_wp2_with fail;refine(R.o _ ((HP.o.set qo))).mono ?_;rintro e w2 ⟨rfl,k,f⟩;obtain⟨j,i,l,HK,HP⟩:=gJ (aF (bE (j.o) qo) f qo) (aF (Tx (i.o) _) f qo) (aF (bE (l.o) qo) f qo) ((HK.o.set qo).aD5 f) k;clear k f o q r s t v x y z A B C D E;have bg:=aD j.o;have bq:=aD i.o;have au:=aD l.o;have b0:=HP.o.lt;clear R;obtain⟨⟨o,q,r,s,t,v,x⟩,y,z,A,B,C,D,E⟩:=bI i.o;go_wp2_with fail;refine(J.o _ _ _ ((HP.o.set qo).alloc) (nM _ _ _ _ _ qs rfl)).mono ?_;rintro e w3 ⟨rfl,k,f⟩;obtain⟨j,i,l,m,HK,HP⟩:=hD6 (aF (aE (bE (j.o) qo) (aB _ _)) f qo) (aF (aE (Tw (i.o) _) (aB _ _)) f qo) (aF (aE (bE (l.o) qo) (aB _ _)) f qo) (aF (aK _ _ _ qs) f qo:w3.heap[w2.heap.size]? =some (.cells alW 9 (0,0))) ((HK.o.set qo).alloc.aD5 f) k;clear k f o q r s t v x y z A B C D E
 have bh:=aD j.o;have br:=aD i.o;have av:=aD l.o;have a6:=aD m.o;have b1:=HP.o.lt;clear J;obtain⟨⟨o,q,r,s,t,v,x⟩,y,z,A,B,C,D,E⟩:=bI i.o;go_wp2_with fail;refine(P.o _ ((HP.o.set qo))).mono ?_;rintro e w4 ⟨Z,rfl,F,k,f⟩;obtain⟨ta,tc,rfl,tl⟩:=F.slice;obtain⟨j,i,l,m,HK,HP⟩:=hD6 (aF (bE (j.o) qo) f qo) (aF (Ty (i.o) _) f qo) (aF (bE (l.o) qo) f qo) (aF (bE (m.o) qo) f qo) ((HK.o.set qo).aD5 f) k;clear k f o q r s t v x y z A B C D E;have bj:=aD j.o;have bs:=aD i.o;have aw:=aD l.o;have a7:=aD m.o;have b2:=HP.o.lt;have HSt:=aA (aH.more aS (aH.inb aS F) (ok':=fun b=>w.heap.size<b/\b≠w.heap.size+1) (fun b hb=>by have h1:=hb.1;(try simp only[World.setCell,Array.size_modify] at h1);have h3:w3.heap.size<=b:=h1;exact⟨by show w.heap.size<b;omega,by show b≠w.heap.size+1;omega⟩));clear F;clear P;obtain⟨⟨o,q,r,s,t,v,x⟩,y,z,A,B,C,D,E⟩:=bI i.o;go_wp2_with fail;refine(O.o _ ((HP.o.set qo))).mono ?_;rintro e w5 ⟨rfl,k,f⟩;obtain⟨j,i,l,m,HK,HP⟩:=hD6 (aF (bE (j.o) qo) f qo) (aF (KR (i.o) _) f qo) (aF (bE (l.o) qo) f qo) (aF (bE (m.o) qo) f qo) ((HK.o.set qo).aD5 f) k;have HSt:=aA (aH.aD5 aS (aH.set aS (HSt.o) qh) f qh);clear k f o q r s t v x y z A B C D E;have bk:=aD j.o;have bt:=aD i.o;have ax:=aD l.o;have a8:=aD m.o;have b3:=HP.o.lt;clear O;obtain⟨⟨o,q,r,s,t,v,x⟩,y,z,A,B,C,D,E⟩:=bI i.o;go_wp2_with fail;refine(K.o _ (HP.o)).mono ?_;rintro e w6 ⟨Z,rfl,F,k,f⟩;obtain⟨ba,bc,rfl,bl⟩:=F.slice;obtain⟨j,i,l,m,HK,HP⟩:=hD6 (aF (j.o) f qo) (aF (i.o) f qo) (aF (l.o) f qo) (aF (m.o) f qo) (HK.o.aD5 f) k
 have HSt:=aA (aH.aD5 aS (HSt.o) f qh);clear k f o q r s t v x y z A B C D E;have bm:=aD j.o;have bu:=aD i.o;have ay:=aD l.o;have bb:=aD m.o;have b4:=HP.o.lt;have G:=aA (aH.more (bC n) (aH.inb (bC n) F) (ok':=fun b=>w.heap.size<b/\b≠w.heap.size+1) (fun b hb=>by have h1:=hb.1;(try simp only[World.setCell,Array.size_modify] at h1);have h3:w5.heap.size<=b:=h1;exact⟨by show w.heap.size<b;omega,by show b≠w.heap.size+1;omega⟩));clear F;clear K;obtain⟨⟨o,q,r,s,t,v,x⟩,y,z,A,B,C,D,E⟩:=bI i.o;go_wp2_with fail;refine(N.o _ ((HP.o.set qo))).mono ?_;rintro e w7 ⟨rfl,k,f⟩;obtain⟨j,i,l,m,HK,HP⟩:=hD6 (aF (bE (j.o) qo) f qo) (aF (aA2 (i.o) _) f qo) (aF (bE (l.o) qo) f qo) (aF (bE (m.o) qo) f qo) ((HK.o.set qo).aD5 f) k;have HSt:=aA (aH.aD5 aS (aH.set aS (HSt.o) qh) f qh);have G:=aA (aH.aD5 (bC n) (aH.set (bC n) (G.o) qh) f qh);clear k f o q r s t v x y z A B C D E;have bn:=aD j.o;have bw:=aD i.o;have az:=aD l.o;have bd:=aD m.o;have b5:=HP.o.lt;clear N;go_wp2_with fail;refine(M.o _ (HP.o)).mono ?_;rintro e w8 ⟨Z,rfl,F,k,f⟩;obtain⟨oa,oc,rfl,ol⟩:=F.slice;obtain⟨j,i,l,m,HK,HP⟩:=hD6 (aF (j.o) f qo) (aF (i.o) f qo) (aF (l.o) f qo) (aF (m.o) f qo) (HK.o.aD5 f) k;have HSt:=aA (aH.aD5 aS (HSt.o) f qh);have G:=aA (aH.aD5 (bC n) (G.o) f qh)
 clear k f;have bo:=aD j.o;have bx:=aD i.o;have a1:=aD l.o;have be:=aD m.o;have b6:=HP.o.lt;have HSo:=aA (aH.more aO (aH.inb aO F) (ok':=fun b=>w.heap.size<b/\b≠w.heap.size+1) (fun b hb=>by have h1:=hb.1;(try simp only[World.setCell,Array.size_modify] at h1);have h3:w7.heap.size<=b:=h1;exact⟨by show w.heap.size<b;omega,by show b≠w.heap.size+1;omega⟩));clear F;clear M;obtain⟨⟨o,q,r,s,t,v,x⟩,y,z,A,B,C,D,E⟩:=bI i.o;obtain⟨⟨R0,R1,R2,R3,R4,R5,R6⟩,ag,ah,ai,aj,ak,al,an⟩:=bI j.o;go_wp2;refine bR (.agg #[.string W.1,.bool true,.int .i64 H.1,.slice ta X.1.length tc,.slice none 0 0,.slice ba Y.1.length bc,.slice oa r8.1.length oc]) ?_;have ae:=aa.o;have ad:dE.length=6:=rfl;rw[ad] at ae;refine⟨_,_,_,_,rfl,⟨lT ab.o (by unfold cQ;omega),by unfold bL;show _<=H.1/\H.1<=_;omega,?_,?_,?_,?_⟩,?_,?_⟩
 .exact QAP
 .exact aH.nil
 .exact aH.more (bC n) (aH.set (bC n) (aH.set (bC n) (aH.set (bC n) (aH.set (bC n) (aH.set (bC n) (aH.set (bC n) (aH.set (bC n) (aH.set (bC n) (G.o) qh) qh) qh) qh) qh) qh) qh) qh) (fun b hb=>by have:=hb.1;show w.heap.size<=b;omega)
 .exact QAQ
 .exact QCv
 .exact QCm
theorem CA{L:List Tok}{n:Nat}(hn:n<=3)(T:Toks L){p:PS}(d:Int)(hd:d=4 - (n:Int))(hp:p.at_<L.length)(af:p.aDR<=64)(g:Nat)(w:World)(h:PW L w g p)(Q:(bA L [str "policy",str "set"] p).1≠2):
 Calls prog 74 #[.pointer (some ⟨g,0,none⟩),.int .i64 d] w (wU n L g w (cP L n p).1 (cP L n p).2):=by
 have hL:=T.len;have aq:=h.lt;have HP:=aA h;have m1:=dR T [str "policy",str "set"] hp;have m2:=jK T m1.lt;have m3:=dR T dE m2.lt;have m4:=mB T m3.lt;have m5:=gD T rL m4.lt;have m15:=m1.trans (m2.trans (m3.trans (m4.trans m5)));have S:=m15.aEz af;have m6:=tF T L.length [] m5.lt;have m7:=gD T yM m6.lt;have I:=aA (fun a c w h hw=>nL T [str "policy",str "set"] a c 2 rfl qe hp g w h hw);have R:=aA (fun w h=>rP T m1.lt g w h);have J:=aA (fun a c w h hw=>nL T dE a c 6 rfl qe m2.lt g w h hw);have P:=aA (fun w h=>tZ T m3.lt g w h);have O:=aA (fun w h=>mO T rL m4.lt g w h);have K:=aA (fun w h=>Rk T m5.lt S g w h);have N:=aA (fun w h=>mO T yM m6.lt g w h);have M:=aA (fun w h=>vL T m7.lt g w h);have ab:=aA (rT T m1.lt);have aa:=aA (nY (L:=L) dE (bT L (bA L [str "policy",str "set"] p).2).2);have d1:1<=d:=qo;have d2:d<=4:=qo;rw[WH L n p Q];unfold wU;unfold iL at P M K;clear h m1 m2 m3 m4 m5 m6 m7 m15 S hd;generalize bA L [str "policy",str "set"] p=U at *;generalize bT L U.2=V at *;generalize bA L dE V.2=H at *;generalize bU L H.2=W at *;generalize eN L rL W.2=p5 at *;generalize iK L L.length [] p5=X at *;generalize eN L yM X.2=p7 at *;generalize gR L p7=r8 at *;rw[wH,KO] at I;rw[show dE=[⟨#[100,101,110,121,111,118,101,114]⟩,⟨#[112,101,114,109,105,116,111,118,101,114]⟩,⟨#[102,105,114,115,116]⟩,⟨#[111,110,108,121]⟩,⟨#[100,101,110,121,117,110,108,101,115,115]⟩,⟨#[112,101,114,109,105,116,117,110,108,101,115,115]⟩] from by kernel_rfl] at J;rw[TZ] at O;rw[UA] at N;have ao:(U.1==2)=false:=bN.2 Q;clear Q
 dsimp only;go_enter func74,ntmps74;have HK:=aA (cZ.refl w.heap.size g w);go_wp2_with fail;refine(I.o _ _ _ (HP.o.alloc.alloc.alloc) (nM _ _ _ _ _ qs rfl)).mono ?_;rintro e w1 ⟨rfl,k,f⟩;obtain⟨j,i,l,HK,HP⟩:=gJ (aF (aE (aE (aK _ _ _ qs) (aB _ _)) (aB _ _)) f qo:w1.heap[w.heap.size]? =some (.cells wN 60 (0,0))) (aF (aE (aK _ _ _ qs) (aB _ _)) f qo:w1.heap[w.heap.size+1]? =some (.cells wN 60 (0,0))) (aF (aK _ _ _ qs) f qo:w1.heap[w.heap.size+2]? =some (.cells #[.string ⟨#[112,111,108,105,99,121]⟩,.string ⟨#[115,101,116]⟩] 9 (0,0))) (HK.o.alloc.alloc.alloc.aD5 f) k;clear k f;have bf:=aD j.o;have bp:=aD i.o;have ar:=aD l.o;have bz:=HP.o.lt;clear I;obtain⟨⟨o,q,r,s,t,v,x⟩,y,z,A,B,C,D,E⟩:=bI i.o;go_wp2_with fail;refine(R.o _ ((HP.o.set qo))).mono ?_;rintro e w2 ⟨rfl,k,f⟩;obtain⟨j,i,l,HK,HP⟩:=gJ (aF (bE (j.o) qo) f qo) (aF (Tx (i.o) _) f qo) (aF (bE (l.o) qo) f qo) ((HK.o.set qo).aD5 f) k;clear k f o q r s t v x y z A B C D E;have bg:=aD j.o;have bq:=aD i.o;have au:=aD l.o;have b0:=HP.o.lt;clear R;obtain⟨⟨o,q,r,s,t,v,x⟩,y,z,A,B,C,D,E⟩:=bI i.o;go_wp2_with fail;refine(J.o _ _ _ ((HP.o.set qo).alloc) (nM _ _ _ _ _ qs rfl)).mono ?_;rintro e Z ⟨rfl,k,f⟩;obtain⟨j,i,l,m,HK,HP⟩:=hD6 (aF (aE (bE (j.o) qo) (aB _ _)) f qo) (aF (aE (Tw (i.o) _) (aB _ _)) f qo) (aF (aE (bE (l.o) qo) (aB _ _)) f qo) (aF (aK _ _ _ qs) f qo:Z.heap[w2.heap.size]? =some (.cells alW 9 (0,0))) ((HK.o.set qo).alloc.aD5 f) k;clear k f o q r s t v x y z A B C D E;have bh:=aD j.o;have br:=aD i.o;have av:=aD l.o;have a6:=aD m.o
 have b1:=HP.o.lt;clear J;obtain⟨⟨o,q,r,s,t,v,x⟩,y,z,A,B,C,D,E⟩:=bI i.o;go_wp2_with fail;refine(P.o _ ((HP.o.set qo))).mono ?_;rintro e w4 ⟨Y,rfl,F,k,f⟩;obtain⟨ta,tc,rfl,tl⟩:=F.slice;obtain⟨j,i,l,m,HK,HP⟩:=hD6 (aF (bE (j.o) qo) f qo) (aF (Ty (i.o) _) f qo) (aF (bE (l.o) qo) f qo) (aF (bE (m.o) qo) f qo) ((HK.o.set qo).aD5 f) k;clear k f o q r s t v x y z A B C D E;have bj:=aD j.o;have bs:=aD i.o;have aw:=aD l.o;have a7:=aD m.o;have b2:=HP.o.lt;have HSt:=aA (aH.more aS (aH.inb aS F) (ok':=fun b=>w.heap.size<b/\b≠w.heap.size+1) (fun b hb=>by have h1:=hb.1;(try simp only[World.setCell,Array.size_modify] at h1);have h3:Z.heap.size<=b:=h1;exact⟨by show w.heap.size<b;omega,by show b≠w.heap.size+1;omega⟩));clear F;clear P;obtain⟨⟨o,q,r,s,t,v,x⟩,y,z,A,B,C,D,E⟩:=bI i.o;go_wp2_with fail;refine(O.o _ ((HP.o.set qo))).mono ?_;rintro e w5 ⟨rfl,k,f⟩;obtain⟨j,i,l,m,HK,HP⟩:=hD6 (aF (bE (j.o) qo) f qo) (aF (KR (i.o) _) f qo) (aF (bE (l.o) qo) f qo) (aF (bE (m.o) qo) f qo) ((HK.o.set qo).aD5 f) k;have HSt:=aA (aH.aD5 aS (aH.set aS (HSt.o) qh) f qh);clear k f o q r s t v x y z A B C D E;have bk:=aD j.o;have bt:=aD i.o;have ax:=aD l.o;have a8:=aD m.o;have b3:=HP.o.lt;clear O;obtain⟨⟨o,q,r,s,t,v,x⟩,y,z,A,B,C,D,E⟩:=bI i.o;go_wp2_with fail;refine(K.o _ (HP.o)).mono ?_;rintro e w6 ⟨Y,rfl,F,k,f⟩;obtain⟨ba,bc,rfl,bl⟩:=F.slice;obtain⟨j,i,l,m,HK,HP⟩:=hD6 (aF (j.o) f qo) (aF (i.o) f qo) (aF (l.o) f qo) (aF (m.o) f qo) (HK.o.aD5 f) k
 have HSt:=aA (aH.aD5 aS (HSt.o) f qh);clear k f o q r s t v x y z A B C D E;have bm:=aD j.o;have bu:=aD i.o;have ay:=aD l.o;have bb:=aD m.o;have b4:=HP.o.lt;have G:=aA (aH.more bM (aH.inb bM F) (ok':=fun b=>w.heap.size<b/\b≠w.heap.size+1) (fun b hb=>by have h1:=hb.1;(try simp only[World.setCell,Array.size_modify] at h1);have h3:w5.heap.size<=b:=h1;exact⟨by show w.heap.size<b;omega,by show b≠w.heap.size+1;omega⟩));clear F;clear K;obtain⟨⟨o,q,r,s,t,v,x⟩,y,z,A,B,C,D,E⟩:=bI i.o;go_wp2_with fail;refine(N.o _ ((HP.o.set qo))).mono ?_;rintro e w7 ⟨rfl,k,f⟩;obtain⟨j,i,l,m,HK,HP⟩:=hD6 (aF (bE (j.o) qo) f qo) (aF (aA1 (i.o) _) f qo) (aF (bE (l.o) qo) f qo) (aF (bE (m.o) qo) f qo) ((HK.o.set qo).aD5 f) k;have HSt:=aA (aH.aD5 aS (aH.set aS (HSt.o) qh) f qh);have G:=aA (aH.aD5 bM (aH.set bM (G.o) qh) f qh);clear k f o q r s t v x y z A B C D E;have bn:=aD j.o;have bw:=aD i.o;have az:=aD l.o;have bd:=aD m.o;have b5:=HP.o.lt;clear N;go_wp2_with fail;refine(M.o _ (HP.o)).mono ?_;rintro e w8 ⟨Y,rfl,F,k,f⟩;obtain⟨oa,oc,rfl,ol⟩:=F.slice;obtain⟨j,i,l,m,HK,HP⟩:=hD6 (aF (j.o) f qo) (aF (i.o) f qo) (aF (l.o) f qo) (aF (m.o) f qo) (HK.o.aD5 f) k;have HSt:=aA (aH.aD5 aS (HSt.o) f qh);have G:=aA (aH.aD5 bM (G.o) f qh);clear k f
 have bo:=aD j.o;have bx:=aD i.o;have a1:=aD l.o;have be:=aD m.o;have b6:=HP.o.lt;have HSo:=aA (aH.more aO (aH.inb aO F) (ok':=fun b=>w.heap.size<b/\b≠w.heap.size+1) (fun b hb=>by have h1:=hb.1;(try simp only[World.setCell,Array.size_modify] at h1);have h3:w7.heap.size<=b:=h1;exact⟨by show w.heap.size<b;omega,by show b≠w.heap.size+1;omega⟩));clear F;clear M;obtain⟨⟨o,q,r,s,t,v,x⟩,y,z,A,B,C,D,E⟩:=bI i.o;obtain⟨⟨R0,R1,R2,R3,R4,R5,R6⟩,ag,ah,ai,aj,ak,al,an⟩:=bI j.o;go_wp2;refine bR (.agg #[.string V.1,.bool false,.int .i64 H.1,.slice ta W.1.length tc,.slice ba X.1.length bc,.slice none 0 0,.slice oa r8.1.length oc]) ?_;have ae:=aa.o;have ad:dE.length=6:=rfl;rw[ad] at ae;refine⟨_,_,_,_,rfl,⟨lT ab.o (by unfold cQ;omega),by unfold bL;show _<=H.1/\H.1<=_;omega,?_,?_,?_,?_⟩,?_,?_⟩
 .exact QAP
 .exact aH.more bM (aH.set bM (aH.set bM (aH.set bM (aH.set bM (aH.set bM (aH.set bM (aH.set bM (aH.set bM (G.o) qh) qh) qh) qh) qh) qh) qh) qh) (fun b hb=>by have:=hb.1;show w.heap.size<=b;omega)
 .exact aH.nil
 .exact QAQ
 .exact QCv
 .exact QCm
theorem LQ{L:List Tok}(T:Toks L)(M:AZ L):∀n,n<=3->aAl L n
 |0,hn=>fun d a p g w hp b h=>by
  have e:Rl L 0:=fun d a p g w hp b h=>Le T M d (by simpa using a) hp b g w h
  by_cases c:(bA L [str "policy",str "set"] p).1=2
  .exact IG (n:=0) qo T e d a hp b g w h c
  .exact CA (n:=0) qo T d a hp b g w h c
 |n+1,hn=>fun d a p g w hp b h=>by
  have e:Rl L (n+1):=fun d a p g w hp b h=>Lf T M (n:=n) qo (LQ T M n qo) d (by rw[a];omega) hp b g w h
  by_cases c:(bA L [str "policy",str "set"] p).1=2
  .exact IG hn T e d a hp b g w h c
  .exact CA hn T d a hp b g w h c
end Go.Proofs.YthcgdgkpgdjahaaGreatDoor
