/- Lemmas. -/
import Derived.Test.YtjlkljmickcacaaGreatDoorMaz
namespace Go.Proofs.YtjlkljmickcacaaGreatDoor
open Go.RowKit
set_option linter.unusedVariables false
set_option linter.unusedSimpArgs false
set_option maxHeartbeats 16000000
open _root_.Go.Proofs.Tryz
set_option maxRecDepth 20000
theorem QBe{p:Prop}(h:p:=by
 go_wp2_with fail;refine(HLM.o true q hq _ HP1.o).mono ?_;rintro e w2 ⟨rfl,h_,k_⟩;have HP2:=aA h_;have HK2:=aA (HK1.o.aDF k_);have HG2:=aA (HG1.o.aDF (bB (n+1)) k_ hgl);clear h_ k_;obtain⟨A_,c_,c0,c1,c2,c3,c4,hs_⟩:=HP2.o.cells;have hg2:=HP2.o.lt;clear hs_ c0 c1 c2 c4;go_wp2;go_ret;refine⟨_,rfl,?_,?_,HK2.o.end⟩
 .rw[HS.o];exact HG2.o.sl qo _ (fun b hb _=>hb) (fun b hb _=>hb) (bB (n+1))
 .rw[HS.o];exact HP2.o):p:=h
theorem Tt{p:Prop}(h:p:=by
 go_wp2_with fail;refine(HLM.o true q hq _ HP1.o).mono ?_;rintro e w2 ⟨rfl,h_,k_⟩;have HP2:=aA h_;have HK2:=aA (HK1.o.aDF k_);have HG2:=aA (HG1.o.aDF (bB 0) k_ hgl);clear h_ k_;obtain⟨A_,c_,c0,c1,c2,c3,c4,hs_⟩:=HP2.o.cells;have hg2:=HP2.o.lt;clear hs_ c0 c1 c2 c4;go_wp2;go_ret;refine⟨_,rfl,?_,?_,HK2.o.end⟩
 .rw[HS.o];exact HG2.o.sl qo _ (fun b hb _=>hb) (fun b hb _=>hb) (bB 0)
 .rw[HS.o];exact HP2.o):p:=h
theorem QAh{p:Prop}(h:p:=by
 have HLF:=aA (HLM.o false q hq w1 HP1.o);rw[hlf] at HLF;clear HLM hlf;go_wp2_with fail;refine HLF.o.mono ?_;rintro e w3 ⟨rfl,h_,k_⟩;have HP3:=aA h_;have HK3:=aA (HK1.o.aDF k_);have HG3:=aA (HG1.o.aDF (bB (n+1)) k_ hgl);clear h_ k_ HLF HP1 HK1 HG1;obtain⟨A_,c_,c0,c1,c2,c3,c4,hs_⟩:=HP3.o.cells;have hg3:=HP3.o.lt;rw[hqb] at c3;clear hs_ c0 c1 c2 c4;unfold wU at HCX;go_wp2_with fail;refine(HCX.o _ hq hru2 HP3.o).mono ?_;rintro e w4 ⟨vt,vr,vk,vo,rfl,hs_,h_,k_⟩;obtain⟨ta,tc,rfl,_⟩:=hs_.2.2.1.slice;obtain⟨ra,rc,rfl,_⟩:=hs_.2.2.2.1.slice;obtain⟨ka,kc,rfl,_⟩:=hs_.2.2.2.2.1.slice;obtain⟨oa,oc,rfl,_⟩:=hs_.2.2.2.2.2.slice;have HP4:=aA h_;have HK4:=aA (HK3.o.aDF k_);have HG4:=aA (HG3.o.aDF (bB (n+1)) k_ hgl);have HSX:=aA hs_;have hz3:w.heap.size<=w3.heap.size:=HK3.o.size;have HGO:=aA (fun b e=>(HG3.o.lt b e).2);clear hs_ h_ k_ HCX HP3 HK3 HG3 c3;have hz4:w.heap.size<=w4.heap.size:=HK4.o.size;have HX:=aA (aB w4 (.cells (kP r2.1 ta tc ra rc ka kc oa oc) 36));have HXN:=aA (aK w4 (.cells (kP r2.1 ta tc ra rc ka kc oa oc) 36) _ rfl);have HGX:=aA (HG4.o.on (bB (n+1)) HX.o);have HPX:=aA (HP4.o.on HX.o);have HKX:=aA (HK4.o.new HX.o);have HSY:=aA (fO.to_ (fO.more (fO.aDw (fO.inb HSX.o) (aJ HX.o)) (ok':=fun b=>w.heap.size<=b/\b<(w4.alloc (.cells (kP r2.1 ta tc ra rc ka kc oa oc) 36)).heap.size/\some b≠(Value.slice A l.length c).ownBlock) (fun b hb'=>by
  have h1:=hb'.1;have h2:=hb'.2;have h3:w3.heap.size<=b:=h1;refine⟨qo,by rw[World.size_alloc];omega,fun e=> ?_⟩;have:=HGO.o b e.symm;omega)))
 go_wp2_with (at_builtin;refine cC aC2 (bB (n+1)) rfl (.tmp 26) (.tmp 30) rfl _ l rfl HGX.o w4.heap.size 1 _ _ _ r2.1 rfl HXN.o HSY.o qo qo (by rw[World.size_alloc];omega) ?_;intro l' hl' A' c' w9 hG hgr hat';have HG5:=aA hG;have HP5:=aA (HPX.o.grown HGX.o hgr hgl);have HK5:=aA (HKX.o.grown HGX.o hgr (lR _));clear hG hgr hat' HX HXN HGX HPX HKX HSX HSY HG4 HP4 HK4)
 rw[<-hl'.o] at HS;have HL2:Hid (l'.length=l.length+1):=aA (by rw[hl'.o,aL,List.length_singleton]);go_roundg f'
 case measure=>rw[HF.o];omega
 case rel=>exact⟨l',_,A',c',rfl,aA ⟨HS.o,hq2,qA HF.o,qA HL2.o,hru3,HG5.o,HP5.o,HK5.o⟩⟩):p:=h
def AR(L:List Tok):Prop:=∀t∈L,t.aDo=6->t.str.size=1
theorem PZ{L:List Tok}(T:Toks L)(M:AR L)(n:Nat){q:PS}(d:q.at_<L.length)(a:(cL L (str "policy") q||cL L (str "set") q)=true):q.at_<(cO L n q).2.at_:=by
 have hw:(aZ L [str "policy",str "set"] q).2.at_=q.at_+1:=by
  have key:∀(s:bY),s.size≠1->(s=str "policy"\/s=str "set")->cL L s q=true->(aZ L [str "policy",str "set"] q).2.at_=q.at_+1:=by
   intro s b f a;have c:=lQ a;have e:(aU L q).aDo=1:=by
    rcases c.2.2 with h|h
    .exact h
    .exfalso;have:=M (aU L q) (by rw[EM d];exact List.getElem_mem _) h;rw[c.2.1] at this;exact b this
   unfold aZ;dsimp only;rw[iP];refine⟨e,?_,by rw[c.2.1];exact a⟩;rw[c.2.1]
   rcases f with rfl|rfl
   .rw[List.findIdx_cons];simp
   .rw[List.findIdx_cons];by_cases h:str "policy"=str "set"
    .simp[h]
    .rw[dF h];simp[List.findIdx_cons]
  rw[Bool.or_eq_true] at a
  rcases a with a|a
  .exact key _ (by rw[wG];decide) (.inl rfl) a
  .exact key _ (by rw[JZ];decide) (.inr rfl) a
 have h1:=dU T [str "policy",str "set"] d;have hm:dM L (aZ L [str "policy",str "set"] q).2 (cO L n q).2:=by
  have h2:=jK T h1.lt;have h3:=dU T dI h2.lt;have h4:=mB T h3.lt;have h5:=gC T rH h4.lt;have h15:=h2.trans (h3.trans (h4.trans h5))
  cases n with
  |zero=>
   unfold cO;dsimp only;by_cases b:decide ((aZ L [str "policy",str "set"] q).1=2)=true
   .rw[iP b];have h6:=rB (one:=fun q=>(mJ,q)) (fun h=>dM.refl h) true L.length [] h5.lt;exact OU
   .rw[iN b];have h6:=tA T L.length [] h5.lt;exact OU
  |succ n=>
   unfold cO;dsimp only;by_cases b:decide ((aZ L [str "policy",str "set"] q).1=2)=true
   .rw[iP b];have h6:=rB (one:=cO L n) (rZ T n) false L.length [] h5.lt;exact OU
   .rw[iN b];have h6:=tA T L.length [] h5.lt;exact OU
 have:=hm.le;omega
def wU(n:Nat)(L:List Tok)(g:Nat)(w:World)(p:Po)(p':PS)(e:Ending)(w':World):Prop:=
 ∃vt vr vk vo,e=.returned (.agg #[.string p.id,.bool p.set,.int .i64 p.alg,vt,vr,vk,vo])/\fO n w' (fun b=>w.heap.size<=b) p vt vr vk vo/\PW L w' g p'/\aN (fun b=>b≠g) w w'
def Zm(L:List Tok)(n:Nat):Prop:=∀(d:Int),d=4 - (n:Int)->∀p g w,p.at_<L.length->p.aDq<=64->PW L w g p->
 Calls prog 91 #[.pointer (some ⟨g,0,none⟩),.int .i64 d] w (wU n L g w (cO L n p).1 (cO L n p).2)
def Tu(n:Nat)(L:List Tok)(one:PS->Po×PS)(deep:Bool)(g:Nat)(w:World)(res:List Po×PS)(f:Nat)(v:Value)(wr:World):Prop:=
 ∃(l:List Po) (q:PS) (A:oD) (c:Nat),v=.slice A l.length c/\Hid (Ba (qM n) 7 36 L g w f v wr l q (gQ L one deep f l q=res))
section
variable {L:List Tok} {one:PS->Po×PS} {deep:Bool} {f:Nat} {l:List Po} {q:PS} {res:List Po×PS}
theorem QA(h:gQ L one deep f l q=res)(h1:cL L (str "policy") q=false)(h2:cL L (str "set") q=false):res=(l,q):=by
 cases f with
 |zero=>exact h.symm
 |succ f=>unfold gQ at h;rw[iN (by rw[h1,h2];decide)] at h;exact h.symm
theorem QB(h:gQ L one deep f l q=res)(c:0<f)(h1:(cL L (str "policy") q||cL L (str "set") q)=true)(h2:(decide (l.length=16)||deep)=true):res=(l,cQ L true q)/\(cQ L true q).bad≠0:=by
 have b:(cQ L true q).bad≠0:=by unfold cQ;rw[iP rfl];exact mA 6 _ qe q
 obtain⟨a,rfl⟩:∃a,f=a+1:=⟨f - 1,qo⟩;unfold gQ at h;rw[iP h1] at h;dsimp only at h;rw[h2,iP b] at h;exact⟨h.symm,b⟩
theorem QC(h:gQ L one deep f l q=res)(b:0<f)(hq:q.bad=0)(h1:(cL L (str "policy") q||cL L (str "set") q)=true)(h2:(decide (l.length=16)||deep)=false):
 ∃a,f=a+1/\gQ L one deep a (l++[(one q).1]) (one q).2=res:=by
 obtain⟨a,rfl⟩:∃a,f=a+1:=⟨f - 1,qo⟩;refine⟨a,rfl,?_⟩;unfold gQ at h;exact QCs
end
theorem aC2:dZ prog 33 36 7 128:=fQ (z:= .agg #[.string ByteArray.empty,.bool false,.int .i64 0,.slice none 0 0,.slice none 0 0,.slice none 0 0,.slice none 0 0]) underlying33 (by kernel_rfl) rfl qe
theorem fO.to_{n:Nat}{w:World}{ok:nP}{p:Po}{vt vr vk vo:Value}(h:fO n w ok p vt vr vk vo):qM (n+1) w ok [.string p.id,.bool p.set,.int .i64 p.alg,vt,vr,vk,vo] p:=⟨vt,vr,vk,vo,rfl,h.1,h.2.1,h.2.2.1,h.2.2.2.1,h.2.2.2.2.1,h.2.2.2.2.2⟩
theorem Jx{L:List Tok}{p:PS}(T:Toks L)(M:AR L)(d:Int)(H:d=5)(hp:p.at_<L.length)(hru:p.aDq<=64)(g:Nat)(w:World)(h:PW L w g p):
 Calls prog 154 #[.pointer (some ⟨g,0,none⟩),.int .i64 d] w (iM (qM 0) L g w (gQ L (fun q=>(mJ,q)) true L.length [] p).1 (gQ L (fun q=>(mJ,q)) true L.length [] p).2):=by
 have K:=T.len;have hgl:=h.lt;have HP:=aA h;have F:=aA (fun (s:bY) (q:PS) (hq:q.at_<L.length) w h=>oY s hq K g w h);have HLM:=aA (fun b (q:PS) (hq:q.at_<L.length) w h=>kY b hq K g w h);have R:decide (d > 4)=true:=by rw[H];simp
 have Q:=aA H;obtain⟨res,I⟩:=xE (gQ L (fun q=>(mJ,q)) true L.length [] p);have HR0:Hid (gQ L (fun q=>(mJ,q)) true L.length [] p=res):=aA I.symm;rw[<-I];unfold iM;clear h I H;have HK:=aA (cY.refl w.heap.size g w);go_enter func154,ntmps154;go_wp2;go_loopg [5] L.length (fun f v wr=>Tu 0 L (fun q=>(mJ,q)) true g w res f v wr)
 case atStart=>exact Zl
 case round=>
  clear HR0 HP HK;obtain⟨l,q,A,c,rfl,i⟩:=hrel;have hq:=i.o.at_;have U:=i.o.aDq;have S:=i.o.fuel;have hle:=i.o.len;have N:0<gk:=qo;have hlen:l.length<=5000:=qo;have m:=aA (F.o (str "policy") q hq);have x:=aA (F.o (str "set") q hq);clear F;have y:=aA (fun h1 h2=>QA i.o.res h1 h2);have o:=aA (fun h1 h2=>QB i.o.res N h1 h2);have B:=aA (fun hb h1 h2=>QC i.o.res N hb h1 h2);have z:=aA (fun h=>PZ T M 0 hq h);rw[wG] at m y o B z;rw[JZ] at x y o B z;have C:=aA (fun h=>(lQ (L:=L) (s:=⟨#[112,111,108,105,99,121]⟩) (p:=q) h));have D:=aA (fun h=>(lQ (L:=L) (s:=⟨#[115,101,116]⟩) (p:=q) h));generalize cL L ⟨#[112,111,108,105,99,121]⟩ q=P at *;generalize cL L ⟨#[115,101,116]⟩ q=O at *
  cases P
  .cases O
   .have HS:=aA (y.o rfl rfl);clear y o B C D z;go_wp2_with fail;refine(m.o _ i.o.pw).mono ?_;rintro e w1 ⟨rfl,a⟩;obtain⟨HP1,HK1,HG1⟩:=aY (i.o.pw.on a) (i.o.aDw.new a) (i.o.row.on (bB 0) a);clear a m;go_wp2_with fail;refine(x.o _ HP1.o).mono ?_;rintro e w2 ⟨rfl,a⟩;obtain⟨HP2,HK2,HG2⟩:=aY (HP1.o.on a) (HK1.o.new a) (HG1.o.on (bB 0) a);clear a x;go_wp2;go_ret;refine⟨_,rfl,?_,?_,HK2.o.end⟩
    .rw[HS.o];exact HG2.o.sl qo _ (fun b hb _=>hb) (fun b hb _=>hb) (bB 0)
    .rw[HS.o];exact HP2.o
   .by_cases h16:l.length=16
    .have i16:((l.length:Int)==16)=true:=bQ.2 qo;obtain⟨r,t⟩:=o.o qs (by rw[dX h16];simp);have HS:=aA r;have G:((cQ L true q).bad != 0)=true:=bne_iff_ne.2 t;clear r t y o B C D z;clear h16;go_wp2_with fail;refine(m.o _ i.o.pw).mono ?_;rintro e E ⟨rfl,a⟩;obtain⟨j,n,k⟩:=aY (i.o.pw.on a) (i.o.aDw.new a) (i.o.row.on (bB 0) a);clear a m;go_wp2_with fail;refine(x.o _ j.o).mono ?_;rintro e w1 ⟨rfl,a⟩;obtain⟨HP1,HK1,HG1⟩:=aY (j.o.on a) (n.o.new a) (k.o.on (bB 0) a);clear a x j n k;exact Tt
    .have i16:((l.length:Int)==16)=false:=bN.2 qo;obtain⟨r,t⟩:=o.o qs qs;have HS:=aA r;have G:((cQ L true q).bad != 0)=true:=bne_iff_ne.2 t;clear r t y o B C D z;clear h16;go_wp2_with fail;refine(m.o _ i.o.pw).mono ?_;rintro e E ⟨rfl,a⟩;obtain⟨j,n,k⟩:=aY (i.o.pw.on a) (i.o.aDw.new a) (i.o.row.on (bB 0) a);clear a m;go_wp2_with fail;refine(x.o _ j.o).mono ?_;rintro e w1 ⟨rfl,a⟩;obtain⟨HP1,HK1,HG1⟩:=aY (j.o.on a) (n.o.new a) (k.o.on (bB 0) a);clear a x j n k;exact Tt
  .by_cases h16:l.length=16
   .have i16:((l.length:Int)==16)=true:=bQ.2 qo;obtain⟨r,t⟩:=o.o qs (by rw[dX h16];simp);have HS:=aA r;have G:((cQ L true q).bad != 0)=true:=bne_iff_ne.2 t;clear r t y o B C D z;clear h16;go_wp2_with fail;refine(m.o _ i.o.pw).mono ?_;rintro e E ⟨rfl,a⟩;obtain⟨j,n,k⟩:=aY (i.o.pw.on a) (i.o.aDw.new a) (i.o.row.on (bB 0) a);clear a m;have HP1:=j;have HK1:=n;have HG1:=k;clear j n k x;obtain⟨w1,J⟩:=xE E;subst J;exact Tt
   .have i16:((l.length:Int)==16)=false:=bN.2 qo;obtain⟨r,t⟩:=o.o qs qs;have HS:=aA r;have G:((cQ L true q).bad != 0)=true:=bne_iff_ne.2 t;clear r t y o B C D z;clear h16;go_wp2_with fail;refine(m.o _ i.o.pw).mono ?_;rintro e E ⟨rfl,a⟩;obtain⟨j,n,k⟩:=aY (i.o.pw.on a) (i.o.aDw.new a) (i.o.row.on (bB 0) a);clear a m;have HP1:=j;have HK1:=n;have HG1:=k;clear j n k x;obtain⟨w1,J⟩:=xE E;subst J;exact Tt
theorem Jy{L:List Tok}{p:PS}(T:Toks L)(M:AR L){n:Nat}(hn:n<=3)(hC:Zm L n)(d:Int)(N:d=4 - (n:Int))(hp:p.at_<L.length)(hru:p.aDq<=64)(g:Nat)(w:World)(h:PW L w g p):
 Calls prog 154 #[.pointer (some ⟨g,0,none⟩),.int .i64 d] w (iM (qM (n+1)) L g w (gQ L (cO L n) false L.length [] p).1 (gQ L (cO L n) false L.length [] p).2):=by
 have R:=T.len;have hgl:=h.lt;have HP:=aA h;have K:=aA (fun (s:bY) (q:PS) (hq:q.at_<L.length) w h=>oY s hq R g w h);have HLM:=aA (fun b (q:PS) (hq:q.at_<L.length) w h=>kY b hq R g w h);have J:=aA hC;have Y:decide (d > 4)=false:=by rw[N];simp;omega
 have Q:=aA N;obtain⟨res,O⟩:=xE (gQ L (cO L n) false L.length [] p);have HR0:Hid (gQ L (cO L n) false L.length [] p=res):=aA O.symm;rw[<-O];unfold iM;clear h O N;have HK:=aA (cY.refl w.heap.size g w);go_enter func154,ntmps154;go_wp2;go_loopg [5] L.length (fun f v wr=>Tu (n+1) L (cO L n) false g w res f v wr)
 case atStart=>exact Zl
 case round=>
  clear HR0 HP HK;obtain⟨l,q,A,c,rfl,i⟩:=hrel;have hq:=i.o.at_;have hru2:=i.o.aDq;have Z:=i.o.fuel;have hle:=i.o.len;have S:0<gk:=qo;have hlen:l.length<=5000:=qo;have m:=aA (K.o (str "policy") q hq);have r:=aA (K.o (str "set") q hq);clear K;have z:=aA (fun h1 h2=>QA i.o.res h1 h2);have x:=aA (fun h1 h2=>QB i.o.res S h1 h2);have y:=aA (fun hb h1 h2=>QC i.o.res S hb h1 h2);have t:=aA (fun h=>PZ T M n hq h);rw[wG] at m z x y t;rw[JZ] at r z x y t;have C:=aA (fun h=>(lQ (L:=L) (s:=⟨#[112,111,108,105,99,121]⟩) (p:=q) h));have D:=aA (fun h=>(lQ (L:=L) (s:=⟨#[115,101,116]⟩) (p:=q) h));generalize cL L ⟨#[112,111,108,105,99,121]⟩ q=X at *;generalize cL L ⟨#[115,101,116]⟩ q=W at *
  cases X
  .cases W
   .have HS:=aA (z.o rfl rfl);clear z x y C D t;go_wp2_with fail;refine(m.o _ i.o.pw).mono ?_;rintro e w1 ⟨rfl,a⟩;obtain⟨HP1,HK1,HG1⟩:=aY (i.o.pw.on a) (i.o.aDw.new a) (i.o.row.on (bB (n+1)) a);clear a m;go_wp2_with fail;refine(r.o _ HP1.o).mono ?_;rintro e w2 ⟨rfl,a⟩;obtain⟨HP2,HK2,HG2⟩:=aY (HP1.o.on a) (HK1.o.new a) (HG1.o.on (bB (n+1)) a);clear a r;go_wp2;go_ret;refine⟨_,rfl,?_,?_,HK2.o.end⟩
    .rw[HS.o];exact HG2.o.sl qo _ (fun b hb _=>hb) (fun b hb _=>hb) (bB (n+1))
    .rw[HS.o];exact HP2.o
   .by_cases h16:l.length=16
    .have i16:((l.length:Int)==16)=true:=bQ.2 qo;obtain⟨E,F⟩:=x.o qs (by rw[dX h16];simp);have HS:=aA E;have U:((cQ L true q).bad != 0)=true:=bne_iff_ne.2 F;clear E F z x y C D t;clear h16;go_wp2_with fail;refine(m.o _ i.o.pw).mono ?_;rintro e I ⟨rfl,a⟩;obtain⟨j,o,k⟩:=aY (i.o.pw.on a) (i.o.aDw.new a) (i.o.row.on (bB (n+1)) a);clear a m;go_wp2_with fail;refine(r.o _ j.o).mono ?_;rintro e w1 ⟨rfl,a⟩;obtain⟨HP1,HK1,HG1⟩:=aY (j.o.on a) (o.o.new a) (k.o.on (bB (n+1)) a);clear a r j o k;exact QBe
    .have i16:((l.length:Int)==16)=false:=bN.2 qo;have hqb:q.bad=0:=(D.o rfl).1;obtain⟨f',G,H⟩:=y.o hqb qs (by rw[dF h16];rfl);have HF:=aA G;have V:=t.o qs;have B:=rZ T n hq;have hru3:=B.aD9 hru2;have hq2:=B.lt;have HS:=aA H;have HCX:=aA (J.o d Q.o q g);have hlf:cQ L false q=q:=by unfold cQ;rw[iN qe]
     clear G H z x y C D t h16 B J;generalize cO L n q=r2 at *;go_wp2_with fail;refine(m.o _ i.o.pw).mono ?_;rintro e I ⟨rfl,a⟩;obtain⟨j,o,k⟩:=aY (i.o.pw.on a) (i.o.aDw.new a) (i.o.row.on (bB (n+1)) a);clear a m;go_wp2_with fail;refine(r.o _ j.o).mono ?_;rintro e w1 ⟨rfl,a⟩;obtain⟨HP1,HK1,HG1⟩:=aY (j.o.on a) (o.o.new a) (k.o.on (bB (n+1)) a);clear a r j o k;exact QAh
  .by_cases h16:l.length=16
   .have i16:((l.length:Int)==16)=true:=bQ.2 qo;obtain⟨E,F⟩:=x.o qs (by rw[dX h16];simp);have HS:=aA E;have U:((cQ L true q).bad != 0)=true:=bne_iff_ne.2 F;clear E F z x y C D t;clear h16;go_wp2_with fail;refine(m.o _ i.o.pw).mono ?_;rintro e I ⟨rfl,a⟩;obtain⟨j,o,k⟩:=aY (i.o.pw.on a) (i.o.aDw.new a) (i.o.row.on (bB (n+1)) a);clear a m;have HP1:=j;have HK1:=o;have HG1:=k;clear j o k r;obtain⟨w1,P⟩:=xE I;subst P;exact QBe
   .have i16:((l.length:Int)==16)=false:=bN.2 qo;have hqb:q.bad=0:=(C.o rfl).1;obtain⟨f',G,H⟩:=y.o hqb qs (by rw[dF h16];rfl);have HF:=aA G;have V:=t.o qs;have B:=rZ T n hq;have hru3:=B.aD9 hru2;have hq2:=B.lt;have HS:=aA H;have HCX:=aA (J.o d Q.o q g);have hlf:cQ L false q=q:=by unfold cQ;rw[iN qe]
    clear G H z x y C D t h16 B J;generalize cO L n q=r2 at *;go_wp2_with fail;refine(m.o _ i.o.pw).mono ?_;rintro e I ⟨rfl,a⟩;obtain⟨j,o,k⟩:=aY (i.o.pw.on a) (i.o.aDw.new a) (i.o.row.on (bB (n+1)) a);clear a m;have HP1:=j;have HK1:=o;have HG1:=k;clear j o k r;obtain⟨w1,P⟩:=xE I;subst P;exact QAh
theorem Ek(l:lU)(h:(bX l).1.aDo=6):(bX l).1.str.size=1:=by
 unfold bX at h ⊢
 repeat' split at h
 all_goals first
  |(exfalso;simp at h;done)
  |(simp[*,cI];done)
theorem yG:∀(f:Nat) (l:lU) (k:Nat) (out:List Tok),(∀t∈out,t.aDo=6->t.str.size=1)->(jP f l k out).2.1=0->AR (jP f l k out).1
 |0,l,k,out,_,h=>absurd h (by simp[jP])
 |f+1,[],k,out,ha,_=>by
  simp only[jP];intro t a b
  rcases List.mem_append.1 a with a|a
  .exact ha t a b
  .rw[List.mem_singleton] at a;subst a;exact absurd b qs
 |f+1,c::r,k,out,ha,h=>by
  unfold jP at h ⊢;dsimp only at h ⊢;by_cases h1:c.toNat=32\/c.toNat=10
  .rw[iP h1] at h ⊢;exact yG f r (k+1) out ha h
  .rw[iN h1] at h ⊢;by_cases h2:(bX (c::r)).2=0
   .rw[iP h2] at h;exact absurd h qs
   .rw[iN h2] at h ⊢;refine yG f _ _ _ (fun t a b=> ?_) h
    rcases List.mem_append.1 a with a|a
    .exact ha t a b
    .rw[List.mem_singleton] at a;subst a;exact Ek (c::r) b
theorem Jz{l:lU}(h:(jT l).2.1=0):AR (jT l).1:=by
 unfold jT at h ⊢;by_cases h1:4096<l.length
 .rw[iP h1] at h;exact absurd h qs
 .rw[iN h1] at h ⊢;exact yG _ _ _ _ qs h
end Go.Proofs.YtjlkljmickcacaaGreatDoor
