/- Lemmas. -/
import Derived.Test.YtgoanbpcdhmfkaaGreatDoorMao
namespace Go.Proofs.YtgoanbpcdhmfkaaGreatDoor
open Go.RowKit
set_option linter.unusedVariables false
set_option linter.unusedSimpArgs false
set_option maxHeartbeats 16000000
open _root_.Go.Proofs.Tryz
set_option maxRecDepth 20000
theorem QBe{p:Prop}(h:p:=by
 go_wp2_with fail;refine(HLM.o true q hq _ HP1.o).mono ?_;rintro e w2 ⟨rfl,h_,k_⟩;have HP2:=aA h_;have HK2:=aA (HK1.o.aC1 k_);have HG2:=aA (HG1.o.aC1 (bB (n+1)) k_ hgl);clear h_ k_;obtain⟨A_,c_,c0,c1,c2,c3,c4,hs_⟩:=HP2.o.cells;have hg2:=HP2.o.lt;clear hs_ c0 c1 c2 c4;go_wp2;go_ret;refine⟨_,rfl,?_,?_,HK2.o.end⟩
 .rw[HS.o];exact HG2.o.sl qo _ (fun b hb _=>hb) (fun b hb _=>hb) (bB (n+1))
 .rw[HS.o];exact HP2.o):p:=h
theorem Sf{p:Prop}(h:p:=by
 go_wp2_with fail;refine(HLM.o true q hq _ HP1.o).mono ?_;rintro e w2 ⟨rfl,h_,k_⟩;have HP2:=aA h_;have HK2:=aA (HK1.o.aC1 k_);have HG2:=aA (HG1.o.aC1 (bB 0) k_ hgl);clear h_ k_;obtain⟨A_,c_,c0,c1,c2,c3,c4,hs_⟩:=HP2.o.cells;have hg2:=HP2.o.lt;clear hs_ c0 c1 c2 c4;go_wp2;go_ret;refine⟨_,rfl,?_,?_,HK2.o.end⟩
 .rw[HS.o];exact HG2.o.sl qo _ (fun b hb _=>hb) (fun b hb _=>hb) (bB 0)
 .rw[HS.o];exact HP2.o):p:=h
theorem QAh{p:Prop}(h:p:=by
 have HLF:=aA (HLM.o false q hq w1 HP1.o);rw[hlf] at HLF;clear HLM hlf;go_wp2_with fail;refine HLF.o.mono ?_;rintro e w3 ⟨rfl,h_,k_⟩;have HP3:=aA h_;have HK3:=aA (HK1.o.aC1 k_);have HG3:=aA (HG1.o.aC1 (bB (n+1)) k_ hgl);clear h_ k_ HLF HP1 HK1 HG1;obtain⟨A_,c_,c0,c1,c2,c3,c4,hs_⟩:=HP3.o.cells;have hg3:=HP3.o.lt;rw[hqb] at c3;clear hs_ c0 c1 c2 c4;unfold wJ at HCX;go_wp2_with fail;refine(HCX.o _ hq hru2 HP3.o).mono ?_;rintro e w4 ⟨vt,vr,vk,vo,rfl,hs_,h_,k_⟩;obtain⟨ta,tc,rfl,_⟩:=hs_.2.2.1.slice;obtain⟨ra,rc,rfl,_⟩:=hs_.2.2.2.1.slice;obtain⟨ka,kc,rfl,_⟩:=hs_.2.2.2.2.1.slice;obtain⟨oa,oc,rfl,_⟩:=hs_.2.2.2.2.2.slice;have HP4:=aA h_;have HK4:=aA (HK3.o.aC1 k_);have HG4:=aA (HG3.o.aC1 (bB (n+1)) k_ hgl);have HSX:=aA hs_;have hz3:w.heap.size<=w3.heap.size:=HK3.o.size;have HGO:=aA (fun b e=>(HG3.o.lt b e).2);clear hs_ h_ k_ HCX HP3 HK3 HG3 c3;have hz4:w.heap.size<=w4.heap.size:=HK4.o.size;have HX:=aA (aB w4 (.cells (kH r2.1 ta tc ra rc ka kc oa oc) 38));have HXN:=aA (aK w4 (.cells (kH r2.1 ta tc ra rc ka kc oa oc) 38) _ rfl);have HGX:=aA (HG4.o.on (bB (n+1)) HX.o);have HPX:=aA (HP4.o.on HX.o);have HKX:=aA (HK4.o.new HX.o);have HSY:=aA (fM.to_ (fM.more (fM.aCT (fM.inb HSX.o) (aJ HX.o)) (ok':=fun b=>w.heap.size<=b/\b<(w4.alloc (.cells (kH r2.1 ta tc ra rc ka kc oa oc) 38)).heap.size/\some b≠(Value.slice A l.length c).ownBlock) (fun b hb'=>by
  have h1:=hb'.1;have h2:=hb'.2;have h3:w3.heap.size<=b:=h1;refine⟨qo,by rw[World.size_alloc];omega,fun e=> ?_⟩;have:=HGO.o b e.symm;omega)))
 go_wp2_with (at_builtin;refine cB aCr (bB (n+1)) rfl (.tmp 26) (.tmp 30) rfl _ l rfl HGX.o w4.heap.size 1 _ _ _ r2.1 rfl HXN.o HSY.o qo qo (by rw[World.size_alloc];omega) ?_;intro l' hl' A' c' w9 hG hgr hat';have HG5:=aA hG;have HP5:=aA (HPX.o.grown HGX.o hgr hgl);have HK5:=aA (HKX.o.grown HGX.o hgr (lR _));clear hG hgr hat' HX HXN HGX HPX HKX HSX HSY HG4 HP4 HK4)
 rw[<-hl'.o] at HS;have HL2:Hid (l'.length=l.length+1):=aA (by rw[hl'.o,aL,List.length_singleton]);go_roundg f'
 case measure=>rw[HF.o];omega
 case rel=>exact⟨l',_,A',c',rfl,aA ⟨HS.o,hq2,qA HF.o,qA HL2.o,hru3,HG5.o,HP5.o,HK5.o⟩⟩):p:=h
def AM(L:List Tok):Prop:=∀t∈L,t.aCJ=6->t.str.size=1
theorem OS{L:List Tok}(T:Toks L)(M:AM L)(n:Nat){q:PS}(d:q.at_<L.length)(a:(cL L (str "policy") q||cL L (str "set") q)=true):q.at_<(cO L n q).2.at_:=by
 have hw:(aZ L [str "policy",str "set"] q).2.at_=q.at_+1:=by
  have key:∀(s:bY),s.size≠1->(s=str "policy"\/s=str "set")->cL L s q=true->(aZ L [str "policy",str "set"] q).2.at_=q.at_+1:=by
   intro s b f a;have c:=lG a;have e:(aU L q).aCJ=1:=by
    rcases c.2.2 with h|h
    .exact h
    .exfalso;have:=M (aU L q) (by rw[EF d];exact List.getElem_mem _) h;rw[c.2.1] at this;exact b this
   unfold aZ;dsimp only;rw[iP];refine⟨e,?_,by rw[c.2.1];exact a⟩;rw[c.2.1]
   rcases f with rfl|rfl
   .rw[List.findIdx_cons];simp
   .rw[List.findIdx_cons];by_cases h:str "policy"=str "set"
    .simp[h]
    .rw[dF h];simp[List.findIdx_cons]
  rw[Bool.or_eq_true] at a
  rcases a with a|a
  .exact key _ (by rw[vS];decide) (.inl rfl) a
  .exact key _ (by rw[JM];decide) (.inr rfl) a
 have h1:=dR T [str "policy",str "set"] d;have hm:dL L (aZ L [str "policy",str "set"] q).2 (cO L n q).2:=by
  have h2:=jC T h1.lt;have h3:=dR T dE h2.lt;have h4:=lP T h3.lt;have h5:=fY T qX h4.lt;have h15:=h2.trans (h3.trans (h4.trans h5))
  cases n with
  |zero=>
   unfold cO;dsimp only;by_cases b:decide ((aZ L [str "policy",str "set"] q).1=2)=true
   .rw[iP b];have h6:=qQ (one:=fun q=>(mB,q)) (fun h=>dL.refl h) true L.length [] h5.lt;exact NS
   .rw[iN b];have h6:=sQ T L.length [] h5.lt;exact NS
  |succ n=>
   unfold cO;dsimp only;by_cases b:decide ((aZ L [str "policy",str "set"] q).1=2)=true
   .rw[iP b];have h6:=qQ (one:=cO L n) (rP T n) false L.length [] h5.lt;exact NS
   .rw[iN b];have h6:=sQ T L.length [] h5.lt;exact NS
 have:=hm.le;omega
def wJ(n:Nat)(L:List Tok)(g:Nat)(w:World)(p:Po)(p':PS)(e:Ending)(w':World):Prop:=
 ∃vt vr vk vo,e=.returned (.agg #[.string p.id,.bool p.set,.int .i64 p.alg,vt,vr,vk,vo])/\fM n w' (fun b=>w.heap.size<=b) p vt vr vk vo/\PW L w' g p'/\aN (fun b=>b≠g) w w'
def Yb(L:List Tok)(n:Nat):Prop:=∀(d:Int),d=4 - (n:Int)->∀p g w,p.at_<L.length->p.aCM<=64->PW L w g p->
 Calls prog 78 #[.pointer (some ⟨g,0,none⟩),.int .i64 d] w (wJ n L g w (cO L n p).1 (cO L n p).2)
def Sg(n:Nat)(L:List Tok)(one:PS->Po×PS)(deep:Bool)(g:Nat)(w:World)(res:List Po×PS)(f:Nat)(v:Value)(wr:World):Prop:=
 ∃(l:List Po) (q:PS) (A:oD) (c:Nat),v=.slice A l.length c/\Hid (ZW (pZ n) 7 38 L g w f v wr l q (gM L one deep f l q=res))
section
variable {L:List Tok} {one:PS->Po×PS} {deep:Bool} {f:Nat} {l:List Po} {q:PS} {res:List Po×PS}
theorem OT(h:gM L one deep f l q=res)(h1:cL L (str "policy") q=false)(h2:cL L (str "set") q=false):res=(l,q):=by
 cases f with
 |zero=>exact h.symm
 |succ f=>unfold gM at h;rw[iN (by rw[h1,h2];decide)] at h;exact h.symm
theorem OU(h:gM L one deep f l q=res)(c:0<f)(h1:(cL L (str "policy") q||cL L (str "set") q)=true)(h2:(decide (l.length=16)||deep)=true):res=(l,cR L true q)/\(cR L true q).bad≠0:=by
 have b:(cR L true q).bad≠0:=by unfold cR;rw[iP rfl];exact lO 6 _ qe q
 obtain⟨a,rfl⟩:∃a,f=a+1:=⟨f - 1,qo⟩;unfold gM at h;rw[iP h1] at h;dsimp only at h;rw[h2,iP b] at h;exact⟨h.symm,b⟩
theorem OW(h:gM L one deep f l q=res)(b:0<f)(hq:q.bad=0)(h1:(cL L (str "policy") q||cL L (str "set") q)=true)(h2:(decide (l.length=16)||deep)=false):
 ∃a,f=a+1/\gM L one deep a (l++[(one q).1]) (one q).2=res:=by
 obtain⟨a,rfl⟩:∃a,f=a+1:=⟨f - 1,qo⟩;refine⟨a,rfl,?_⟩;unfold gM at h;exact QCq
end
theorem aCr:dV prog 35 38 7 128:=fP (z:= .agg #[.string ByteArray.empty,.bool false,.int .i64 0,.slice none 0 0,.slice none 0 0,.slice none 0 0,.slice none 0 0]) underlying35 (by kernel_rfl) rfl qe
theorem fM.to_{n:Nat}{w:World}{ok:nP}{p:Po}{vt vr vk vo:Value}(h:fM n w ok p vt vr vk vo):pZ (n+1) w ok [.string p.id,.bool p.set,.int .i64 p.alg,vt,vr,vk,vo] p:=⟨vt,vr,vk,vo,rfl,h.1,h.2.1,h.2.2.1,h.2.2.2.1,h.2.2.2.2.1,h.2.2.2.2.2⟩
theorem Is{L:List Tok}{p:PS}(T:Toks L)(M:AM L)(d:Int)(H:d=5)(hp:p.at_<L.length)(hru:p.aCM<=64)(g:Nat)(w:World)(h:PW L w g p):
 Calls prog 144 #[.pointer (some ⟨g,0,none⟩),.int .i64 d] w (iI (pZ 0) L g w (gM L (fun q=>(mB,q)) true L.length [] p).1 (gM L (fun q=>(mB,q)) true L.length [] p).2):=by
 have K:=T.len;have hgl:=h.lt;have HP:=aA h;have F:=aA (fun (s:bY) (q:PS) (hq:q.at_<L.length) w h=>oQ s hq K g w h);have HLM:=aA (fun b (q:PS) (hq:q.at_<L.length) w h=>kQ b hq K g w h);have R:decide (d > 4)=true:=by rw[H];simp
 have Q:=aA H;obtain⟨res,I⟩:=xE (gM L (fun q=>(mB,q)) true L.length [] p);have HR0:Hid (gM L (fun q=>(mB,q)) true L.length [] p=res):=aA I.symm;rw[<-I];unfold iI;clear h I H;have HK:=aA (cW.refl w.heap.size g w);go_enter func144,ntmps144;go_wp2;go_loopg [5] L.length (fun f v wr=>Sg 0 L (fun q=>(mB,q)) true g w res f v wr)
 case atStart=>exact Ya
 case round=>
  clear HR0 HP HK;obtain⟨l,q,A,c,rfl,i⟩:=hrel;have hq:=i.o.at_;have U:=i.o.aCM;have S:=i.o.fuel;have hle:=i.o.len;have N:0<gk:=qo;have hlen:l.length<=5000:=qo;have m:=aA (F.o (str "policy") q hq);have x:=aA (F.o (str "set") q hq);clear F;have y:=aA (fun h1 h2=>OT i.o.res h1 h2);have o:=aA (fun h1 h2=>OU i.o.res N h1 h2);have B:=aA (fun hb h1 h2=>OW i.o.res N hb h1 h2);have z:=aA (fun h=>OS T M 0 hq h);rw[vS] at m y o B z;rw[JM] at x y o B z;have C:=aA (fun h=>(lG (L:=L) (s:=⟨#[112,111,108,105,99,121]⟩) (p:=q) h));have D:=aA (fun h=>(lG (L:=L) (s:=⟨#[115,101,116]⟩) (p:=q) h));generalize cL L ⟨#[112,111,108,105,99,121]⟩ q=P at *;generalize cL L ⟨#[115,101,116]⟩ q=O at *
  cases P
  .cases O
   .have HS:=aA (y.o rfl rfl);clear y o B C D z;go_wp2_with fail;refine(m.o _ i.o.pw).mono ?_;rintro e w1 ⟨rfl,a⟩;obtain⟨HP1,HK1,HG1⟩:=aY (i.o.pw.on a) (i.o.aCT.new a) (i.o.row.on (bB 0) a);clear a m;go_wp2_with fail;refine(x.o _ HP1.o).mono ?_;rintro e w2 ⟨rfl,a⟩;obtain⟨HP2,HK2,HG2⟩:=aY (HP1.o.on a) (HK1.o.new a) (HG1.o.on (bB 0) a);clear a x;go_wp2;go_ret;refine⟨_,rfl,?_,?_,HK2.o.end⟩
    .rw[HS.o];exact HG2.o.sl qo _ (fun b hb _=>hb) (fun b hb _=>hb) (bB 0)
    .rw[HS.o];exact HP2.o
   .by_cases h16:l.length=16
    .have i16:((l.length:Int)==16)=true:=bQ.2 qo;obtain⟨r,t⟩:=o.o qs (by rw[dX h16];simp);have HS:=aA r;have G:((cR L true q).bad != 0)=true:=bne_iff_ne.2 t;clear r t y o B C D z;clear h16;go_wp2_with fail;refine(m.o _ i.o.pw).mono ?_;rintro e E ⟨rfl,a⟩;obtain⟨j,n,k⟩:=aY (i.o.pw.on a) (i.o.aCT.new a) (i.o.row.on (bB 0) a);clear a m;go_wp2_with fail;refine(x.o _ j.o).mono ?_;rintro e w1 ⟨rfl,a⟩;obtain⟨HP1,HK1,HG1⟩:=aY (j.o.on a) (n.o.new a) (k.o.on (bB 0) a);clear a x j n k;exact Sf
    .have i16:((l.length:Int)==16)=false:=bN.2 qo;obtain⟨r,t⟩:=o.o qs qs;have HS:=aA r;have G:((cR L true q).bad != 0)=true:=bne_iff_ne.2 t;clear r t y o B C D z;clear h16;go_wp2_with fail;refine(m.o _ i.o.pw).mono ?_;rintro e E ⟨rfl,a⟩;obtain⟨j,n,k⟩:=aY (i.o.pw.on a) (i.o.aCT.new a) (i.o.row.on (bB 0) a);clear a m;go_wp2_with fail;refine(x.o _ j.o).mono ?_;rintro e w1 ⟨rfl,a⟩;obtain⟨HP1,HK1,HG1⟩:=aY (j.o.on a) (n.o.new a) (k.o.on (bB 0) a);clear a x j n k;exact Sf
  .by_cases h16:l.length=16
   .have i16:((l.length:Int)==16)=true:=bQ.2 qo;obtain⟨r,t⟩:=o.o qs (by rw[dX h16];simp);have HS:=aA r;have G:((cR L true q).bad != 0)=true:=bne_iff_ne.2 t;clear r t y o B C D z;clear h16;go_wp2_with fail;refine(m.o _ i.o.pw).mono ?_;rintro e E ⟨rfl,a⟩;obtain⟨j,n,k⟩:=aY (i.o.pw.on a) (i.o.aCT.new a) (i.o.row.on (bB 0) a);clear a m;have HP1:=j;have HK1:=n;have HG1:=k;clear j n k x;obtain⟨w1,J⟩:=xE E;subst J;exact Sf
   .have i16:((l.length:Int)==16)=false:=bN.2 qo;obtain⟨r,t⟩:=o.o qs qs;have HS:=aA r;have G:((cR L true q).bad != 0)=true:=bne_iff_ne.2 t;clear r t y o B C D z;clear h16;go_wp2_with fail;refine(m.o _ i.o.pw).mono ?_;rintro e E ⟨rfl,a⟩;obtain⟨j,n,k⟩:=aY (i.o.pw.on a) (i.o.aCT.new a) (i.o.row.on (bB 0) a);clear a m;have HP1:=j;have HK1:=n;have HG1:=k;clear j n k x;obtain⟨w1,J⟩:=xE E;subst J;exact Sf
theorem Iu{L:List Tok}{p:PS}(T:Toks L)(M:AM L){n:Nat}(hn:n<=3)(hC:Yb L n)(d:Int)(N:d=4 - (n:Int))(hp:p.at_<L.length)(hru:p.aCM<=64)(g:Nat)(w:World)(h:PW L w g p):
 Calls prog 144 #[.pointer (some ⟨g,0,none⟩),.int .i64 d] w (iI (pZ (n+1)) L g w (gM L (cO L n) false L.length [] p).1 (gM L (cO L n) false L.length [] p).2):=by
 have R:=T.len;have hgl:=h.lt;have HP:=aA h;have K:=aA (fun (s:bY) (q:PS) (hq:q.at_<L.length) w h=>oQ s hq R g w h);have HLM:=aA (fun b (q:PS) (hq:q.at_<L.length) w h=>kQ b hq R g w h);have J:=aA hC;have Y:decide (d > 4)=false:=by rw[N];simp;omega
 have Q:=aA N;obtain⟨res,O⟩:=xE (gM L (cO L n) false L.length [] p);have HR0:Hid (gM L (cO L n) false L.length [] p=res):=aA O.symm;rw[<-O];unfold iI;clear h O N;have HK:=aA (cW.refl w.heap.size g w);go_enter func144,ntmps144;go_wp2;go_loopg [5] L.length (fun f v wr=>Sg (n+1) L (cO L n) false g w res f v wr)
 case atStart=>exact Ya
 case round=>
  clear HR0 HP HK;obtain⟨l,q,A,c,rfl,i⟩:=hrel;have hq:=i.o.at_;have hru2:=i.o.aCM;have Z:=i.o.fuel;have hle:=i.o.len;have S:0<gk:=qo;have hlen:l.length<=5000:=qo;have m:=aA (K.o (str "policy") q hq);have r:=aA (K.o (str "set") q hq);clear K;have z:=aA (fun h1 h2=>OT i.o.res h1 h2);have x:=aA (fun h1 h2=>OU i.o.res S h1 h2);have y:=aA (fun hb h1 h2=>OW i.o.res S hb h1 h2);have t:=aA (fun h=>OS T M n hq h);rw[vS] at m z x y t;rw[JM] at r z x y t;have C:=aA (fun h=>(lG (L:=L) (s:=⟨#[112,111,108,105,99,121]⟩) (p:=q) h));have D:=aA (fun h=>(lG (L:=L) (s:=⟨#[115,101,116]⟩) (p:=q) h));generalize cL L ⟨#[112,111,108,105,99,121]⟩ q=X at *;generalize cL L ⟨#[115,101,116]⟩ q=W at *
  cases X
  .cases W
   .have HS:=aA (z.o rfl rfl);clear z x y C D t;go_wp2_with fail;refine(m.o _ i.o.pw).mono ?_;rintro e w1 ⟨rfl,a⟩;obtain⟨HP1,HK1,HG1⟩:=aY (i.o.pw.on a) (i.o.aCT.new a) (i.o.row.on (bB (n+1)) a);clear a m;go_wp2_with fail;refine(r.o _ HP1.o).mono ?_;rintro e w2 ⟨rfl,a⟩;obtain⟨HP2,HK2,HG2⟩:=aY (HP1.o.on a) (HK1.o.new a) (HG1.o.on (bB (n+1)) a);clear a r;go_wp2;go_ret;refine⟨_,rfl,?_,?_,HK2.o.end⟩
    .rw[HS.o];exact HG2.o.sl qo _ (fun b hb _=>hb) (fun b hb _=>hb) (bB (n+1))
    .rw[HS.o];exact HP2.o
   .by_cases h16:l.length=16
    .have i16:((l.length:Int)==16)=true:=bQ.2 qo;obtain⟨E,F⟩:=x.o qs (by rw[dX h16];simp);have HS:=aA E;have U:((cR L true q).bad != 0)=true:=bne_iff_ne.2 F;clear E F z x y C D t;clear h16;go_wp2_with fail;refine(m.o _ i.o.pw).mono ?_;rintro e I ⟨rfl,a⟩;obtain⟨j,o,k⟩:=aY (i.o.pw.on a) (i.o.aCT.new a) (i.o.row.on (bB (n+1)) a);clear a m;go_wp2_with fail;refine(r.o _ j.o).mono ?_;rintro e w1 ⟨rfl,a⟩;obtain⟨HP1,HK1,HG1⟩:=aY (j.o.on a) (o.o.new a) (k.o.on (bB (n+1)) a);clear a r j o k;exact QBe
    .have i16:((l.length:Int)==16)=false:=bN.2 qo;have hqb:q.bad=0:=(D.o rfl).1;obtain⟨f',G,H⟩:=y.o hqb qs (by rw[dF h16];rfl);have HF:=aA G;have V:=t.o qs;have B:=rP T n hq;have hru3:=B.aDt hru2;have hq2:=B.lt;have HS:=aA H;have HCX:=aA (J.o d Q.o q g);have hlf:cR L false q=q:=by unfold cR;rw[iN qe]
     clear G H z x y C D t h16 B J;generalize cO L n q=r2 at *;go_wp2_with fail;refine(m.o _ i.o.pw).mono ?_;rintro e I ⟨rfl,a⟩;obtain⟨j,o,k⟩:=aY (i.o.pw.on a) (i.o.aCT.new a) (i.o.row.on (bB (n+1)) a);clear a m;go_wp2_with fail;refine(r.o _ j.o).mono ?_;rintro e w1 ⟨rfl,a⟩;obtain⟨HP1,HK1,HG1⟩:=aY (j.o.on a) (o.o.new a) (k.o.on (bB (n+1)) a);clear a r j o k;exact QAh
  .by_cases h16:l.length=16
   .have i16:((l.length:Int)==16)=true:=bQ.2 qo;obtain⟨E,F⟩:=x.o qs (by rw[dX h16];simp);have HS:=aA E;have U:((cR L true q).bad != 0)=true:=bne_iff_ne.2 F;clear E F z x y C D t;clear h16;go_wp2_with fail;refine(m.o _ i.o.pw).mono ?_;rintro e I ⟨rfl,a⟩;obtain⟨j,o,k⟩:=aY (i.o.pw.on a) (i.o.aCT.new a) (i.o.row.on (bB (n+1)) a);clear a m;have HP1:=j;have HK1:=o;have HG1:=k;clear j o k r;obtain⟨w1,P⟩:=xE I;subst P;exact QBe
   .have i16:((l.length:Int)==16)=false:=bN.2 qo;have hqb:q.bad=0:=(C.o rfl).1;obtain⟨f',G,H⟩:=y.o hqb qs (by rw[dF h16];rfl);have HF:=aA G;have V:=t.o qs;have B:=rP T n hq;have hru3:=B.aDt hru2;have hq2:=B.lt;have HS:=aA H;have HCX:=aA (J.o d Q.o q g);have hlf:cR L false q=q:=by unfold cR;rw[iN qe]
    clear G H z x y C D t h16 B J;generalize cO L n q=r2 at *;go_wp2_with fail;refine(m.o _ i.o.pw).mono ?_;rintro e I ⟨rfl,a⟩;obtain⟨j,o,k⟩:=aY (i.o.pw.on a) (i.o.aCT.new a) (i.o.row.on (bB (n+1)) a);clear a m;have HP1:=j;have HK1:=o;have HG1:=k;clear j o k r;obtain⟨w1,P⟩:=xE I;subst P;exact QAh
theorem Dh(l:lU)(h:(bX l).1.aCJ=6):(bX l).1.str.size=1:=by
 unfold bX at h ⊢
 repeat' split at h
 all_goals first
  |(exfalso;simp at h;done)
  |(simp[*,cG];done)
theorem xW:∀(f:Nat) (l:lU) (k:Nat) (out:List Tok),(∀t∈out,t.aCJ=6->t.str.size=1)->(jI f l k out).2.1=0->AM (jI f l k out).1
 |0,l,k,out,_,h=>absurd h (by simp[jI])
 |f+1,[],k,out,ha,_=>by
  simp only[jI];intro t a b
  rcases List.mem_append.1 a with a|a
  .exact ha t a b
  .rw[List.mem_singleton] at a;subst a;exact absurd b qs
 |f+1,c::r,k,out,ha,h=>by
  unfold jI at h ⊢;dsimp only at h ⊢;by_cases h1:c.toNat=32\/c.toNat=10
  .rw[iP h1] at h ⊢;exact xW f r (k+1) out ha h
  .rw[iN h1] at h ⊢;by_cases h2:(bX (c::r)).2=0
   .rw[iP h2] at h;exact absurd h qs
   .rw[iN h2] at h ⊢;refine xW f _ _ _ (fun t a b=> ?_) h
    rcases List.mem_append.1 a with a|a
    .exact ha t a b
    .rw[List.mem_singleton] at a;subst a;exact Dh (c::r) b
theorem Iv{l:lU}(h:(jM l).2.1=0):AM (jM l).1:=by
 unfold jM at h ⊢;by_cases h1:4096<l.length
 .rw[iP h1] at h;exact absurd h qs
 .rw[iN h1] at h ⊢;exact xW _ _ _ _ qs h
theorem QCw{p:Prop}(h:p:=by
 exact((((((((HP.o.set qo).set qo).set qo).set qo).set qo).set qo).set qo).set qo)):p:=h
theorem QCm{p:Prop}(h:p:=by
 exact cW.end (((((((((HK.o.set qo).set qo).set qo).set qo).set qo).set qo).set qo).set qo))):p:=h
theorem QAP{p:Prop}(h:p:=by
 exact aH.more aO (aH.set aO (aH.set aO (aH.set aO (aH.set aO (aH.set aO (aH.set aO (aH.set aO (aH.set aO (HSo.o) qh) qh) qh) qh) qh) qh) qh) qh) (fun b hb=>by have:=hb.1;show w.heap.size<=b;omega)):p:=h
theorem QAO{p:Prop}(h:p:=by
 exact aH.more aS (aH.set aS (aH.set aS (aH.set aS (aH.set aS (aH.set aS (aH.set aS (aH.set aS (aH.set aS (HSt.o) qh) qh) qh) qh) qh) qh) qh) qh) (fun b hb=>by have:=hb.1;show w.heap.size<=b;omega)):p:=h
def vA(L:List Tok):Nat->PS->List Po×PS
 |0,p=>gM L (fun q=>(mB,q)) true L.length [] p
 |n+1,p=>gM L (cO L n) false L.length [] p
theorem Di(L:List Tok)(n:Nat)(p:PS)(h:(aZ L [str "policy",str "set"] p).1=2):cO L n p=
 (.mk (bT L (aZ L [str "policy",str "set"] p).2).1 true (aZ L dE (bT L (aZ L [str "policy",str "set"] p).2).2).1 (bU L (aZ L dE (bT L (aZ L [str "policy",str "set"] p).2).2).2).1 [] (vA L n (eH L qX (bU L (aZ L dE (bT L (aZ L [str "policy",str "set"] p).2).2).2).2)).1 (gL L (eH L yD (vA L n (eH L qX (bU L (aZ L dE (bT L (aZ L [str "policy",str "set"] p).2).2).2).2)).2)).1,
  (gL L (eH L yD (vA L n (eH L qX (bU L (aZ L dE (bT L (aZ L [str "policy",str "set"] p).2).2).2).2)).2)).2):=by
 cases n with
 |zero=>
  unfold cO vA;dsimp only;rw[dX h,iP rfl]
 |succ n=>
  unfold cO vA;dsimp only;rw[dX h,iP rfl]
theorem UQ(L:List Tok)(n:Nat)(p:PS)(h:(aZ L [str "policy",str "set"] p).1≠2):cO L n p=
 (.mk (bT L (aZ L [str "policy",str "set"] p).2).1 false (aZ L dE (bT L (aZ L [str "policy",str "set"] p).2).2).1 (bU L (aZ L dE (bT L (aZ L [str "policy",str "set"] p).2).2).2).1 (iH L L.length [] (eH L qX (bU L (aZ L dE (bT L (aZ L [str "policy",str "set"] p).2).2).2).2)).1 [] (gL L (eH L yD (iH L L.length [] (eH L qX (bU L (aZ L dE (bT L (aZ L [str "policy",str "set"] p).2).2).2).2)).2)).1,
  (gL L (eH L yD (iH L L.length [] (eH L qX (bU L (aZ L dE (bT L (aZ L [str "policy",str "set"] p).2).2).2).2)).2)).2):=by
 cases n with
 |zero=>
  unfold cO;dsimp only;rw[dF h,iN qe]
 |succ n=>
  unfold cO;dsimp only;rw[dF h,iN qe]
theorem Iw{L:List Tok}(T:Toks L)(n:Nat){p:PS}(h:p.at_<L.length):dL L p (vA L n p).2:=by
 cases n with
 |zero=>exact qQ (one:=fun q=>(mB,q)) (fun h=>dL.refl h) true L.length [] h
 |succ n=>exact qQ (one:=cO L n) (rP T n) false L.length [] h
def Oy(L:List Tok)(n:Nat):Prop:=∀(d:Int),d=5 - (n:Int)->∀p g w,p.at_<L.length->p.aCM<=64->PW L w g p->
 Calls prog 144 #[.pointer (some ⟨g,0,none⟩),.int .i64 d] w (iI (pZ n) L g w (vA L n p).1 (vA L n p).2)
abbrev alW:Array Value:=#[.string ⟨#[100,101,110,121,111,118,101,114]⟩,.string ⟨#[112,101,114,109,105,116,111,118,101,114]⟩,.string ⟨#[102,105,114,115,116]⟩,.string ⟨#[111,110,108,121]⟩,.string ⟨#[100,101,110,121,117,110,108,101,115,115]⟩,.string ⟨#[112,101,114,109,105,116,117,110,108,101,115,115]⟩]
theorem GB{L:List Tok}{n:Nat}(hn:n<=3)(T:Toks L)(S:Oy L n){p:PS}(d:Int)(hd:d=4 - (n:Int))(hp:p.at_<L.length)(af:p.aCM<=64)(g:Nat)(w:World)(h:PW L w g p)(Q:(aZ L [str "policy",str "set"] p).1=2):
 Calls prog 78 #[.pointer (some ⟨g,0,none⟩),.int .i64 d] w (wJ n L g w (cO L n p).1 (cO L n p).2):=by
 have hL:=T.len;have aq:=h.lt;have HP:=aA h;have m1:=dR T [str "policy",str "set"] hp;have m2:=jC T m1.lt;have m3:=dR T dE m2.lt;have m4:=lP T m3.lt;have m5:=fY T qX m4.lt;have m15:=m1.trans (m2.trans (m3.trans (m4.trans m5)));have U:=m15.aDt af;have m6:=Iw T n m5.lt;have m7:=fY T yD m6.lt;have I:=aA (fun a c w h hw=>nC T [str "policy",str "set"] a c 2 rfl qe hp g w h hw);have R:=aA (fun w h=>rB T m1.lt g w h);have J:=aA (fun a c w h hw=>nC T dE a c 6 rfl qe m2.lt g w h hw);have P:=aA (fun w h=>tL T m3.lt g w h);have O:=aA (fun w h=>mF T qX m4.lt g w h);have K:=aA (fun w h=>S (d+1) qo (eH L qX (bU L (aZ L dE (bT L (aZ L [str "policy",str "set"] p).2).2).2).2) g w m5.lt U h);have N:=aA (fun w h=>mF T yD m6.lt g w h);have M:=aA (fun w h=>uY T m7.lt g w h);have ab:=aA (rF T m1.lt);have aa:=aA (nN (L:=L) dE (bT L (aZ L [str "policy",str "set"] p).2).2);have d1:1<=d:=qo;have d2:d<=4:=qo;rw[Di L n p Q];unfold wJ;unfold iI at P M K;clear h m1 m2 m3 m4 m5 m6 m7 m15 U S hd;generalize aZ L [str "policy",str "set"] p=V at *;generalize bT L V.2=W at *;generalize aZ L dE W.2=H at *;generalize bU L H.2=X at *;generalize eH L qX X.2=p5 at *;generalize vA L n p5=Y at *;generalize eH L yD Y.2=p7 at *;generalize gL L p7=r8 at *;rw[vS,JM] at I;rw[show dE=[⟨#[100,101,110,121,111,118,101,114]⟩,⟨#[112,101,114,109,105,116,111,118,101,114]⟩,⟨#[102,105,114,115,116]⟩,⟨#[111,110,108,121]⟩,⟨#[100,101,110,121,117,110,108,101,115,115]⟩,⟨#[112,101,114,109,105,116,117,110,108,101,115,115]⟩] from by kernel_rfl] at J
 rw[SK] at O;rw[SL] at N;have ao:(V.1==2)=true:=bQ.2 Q;clear Q;dsimp only;go_enter func78,ntmps78;have HK:=aA (cW.refl w.heap.size g w);go_wp2_with fail;refine(I.o _ _ _ (HP.o.alloc.alloc.alloc) (nD _ _ _ _ _ qs rfl)).mono ?_;rintro e w1 ⟨rfl,k,f⟩;obtain⟨j,i,l,HK,HP⟩:=gC (aF (aE (aE (aK _ _ _ qs) (aB _ _)) (aB _ _)) f qo:w1.heap[w.heap.size]? =some (.cells vZ 38 (0,0))) (aF (aE (aK _ _ _ qs) (aB _ _)) f qo:w1.heap[w.heap.size+1]? =some (.cells vZ 38 (0,0))) (aF (aK _ _ _ qs) f qo:w1.heap[w.heap.size+2]? =some (.cells #[.string ⟨#[112,111,108,105,99,121]⟩,.string ⟨#[115,101,116]⟩] 9 (0,0))) (HK.o.alloc.alloc.alloc.aC1 f) k;clear k f;have bf:=aD j.o;have bp:=aD i.o;have ar:=aD l.o;have bz:=HP.o.lt;clear I;obtain⟨⟨o,q,r,s,t,v,x⟩,y,z,A,B,C,D,E⟩:=bI i.o;go_wp2_with fail;refine(R.o _ ((HP.o.set qo))).mono ?_;rintro e w2 ⟨rfl,k,f⟩;obtain⟨j,i,l,HK,HP⟩:=gC (aF (bE (j.o) qo) f qo) (aF (Ri (i.o) _) f qo) (aF (bE (l.o) qo) f qo) ((HK.o.set qo).aC1 f) k;clear k f o q r s t v x y z A B C D E;have bg:=aD j.o;have bq:=aD i.o;have au:=aD l.o;have b0:=HP.o.lt;clear R;obtain⟨⟨o,q,r,s,t,v,x⟩,y,z,A,B,C,D,E⟩:=bI i.o;go_wp2_with fail;refine(J.o _ _ _ ((HP.o.set qo).alloc) (nD _ _ _ _ _ qs rfl)).mono ?_;rintro e w3 ⟨rfl,k,f⟩;obtain⟨j,i,l,m,HK,HP⟩:=hD6 (aF (aE (bE (j.o) qo) (aB _ _)) f qo) (aF (aE (Rh (i.o) _) (aB _ _)) f qo) (aF (aE (bE (l.o) qo) (aB _ _)) f qo) (aF (aK _ _ _ qs) f qo:w3.heap[w2.heap.size]? =some (.cells alW 9 (0,0))) ((HK.o.set qo).alloc.aC1 f) k;clear k f o q r s t v x y z A B C D E
 have bh:=aD j.o;have br:=aD i.o;have av:=aD l.o;have a6:=aD m.o;have b1:=HP.o.lt;clear J;obtain⟨⟨o,q,r,s,t,v,x⟩,y,z,A,B,C,D,E⟩:=bI i.o;go_wp2_with fail;refine(P.o _ ((HP.o.set qo))).mono ?_;rintro e w4 ⟨Z,rfl,F,k,f⟩;obtain⟨ta,tc,rfl,tl⟩:=F.slice;obtain⟨j,i,l,m,HK,HP⟩:=hD6 (aF (bE (j.o) qo) f qo) (aF (Rj (i.o) _) f qo) (aF (bE (l.o) qo) f qo) (aF (bE (m.o) qo) f qo) ((HK.o.set qo).aC1 f) k;clear k f o q r s t v x y z A B C D E;have bj:=aD j.o;have bs:=aD i.o;have aw:=aD l.o;have a7:=aD m.o;have b2:=HP.o.lt;have HSt:=aA (aH.more aS (aH.inb aS F) (ok':=fun b=>w.heap.size<b/\b≠w.heap.size+1) (fun b hb=>by have h1:=hb.1;(try simp only[World.setCell,Array.size_modify] at h1);have h3:w3.heap.size<=b:=h1;exact⟨by show w.heap.size<b;omega,by show b≠w.heap.size+1;omega⟩));clear F;clear P;obtain⟨⟨o,q,r,s,t,v,x⟩,y,z,A,B,C,D,E⟩:=bI i.o;go_wp2_with fail;refine(O.o _ ((HP.o.set qo))).mono ?_;rintro e w5 ⟨rfl,k,f⟩;obtain⟨j,i,l,m,HK,HP⟩:=hD6 (aF (bE (j.o) qo) f qo) (aF (JO (i.o) _) f qo) (aF (bE (l.o) qo) f qo) (aF (bE (m.o) qo) f qo) ((HK.o.set qo).aC1 f) k;have HSt:=aA (aH.aC1 aS (aH.set aS (HSt.o) qh) f qh);clear k f o q r s t v x y z A B C D E;have bk:=aD j.o;have bt:=aD i.o;have ax:=aD l.o;have a8:=aD m.o;have b3:=HP.o.lt;clear O;obtain⟨⟨o,q,r,s,t,v,x⟩,y,z,A,B,C,D,E⟩:=bI i.o;go_wp2_with fail;refine(K.o _ (HP.o)).mono ?_;rintro e w6 ⟨Z,rfl,F,k,f⟩;obtain⟨ba,bc,rfl,bl⟩:=F.slice;obtain⟨j,i,l,m,HK,HP⟩:=hD6 (aF (j.o) f qo) (aF (i.o) f qo) (aF (l.o) f qo) (aF (m.o) f qo) (HK.o.aC1 f) k
 have HSt:=aA (aH.aC1 aS (HSt.o) f qh);clear k f o q r s t v x y z A B C D E;have bm:=aD j.o;have bu:=aD i.o;have ay:=aD l.o;have bb:=aD m.o;have b4:=HP.o.lt;have G:=aA (aH.more (bB n) (aH.inb (bB n) F) (ok':=fun b=>w.heap.size<b/\b≠w.heap.size+1) (fun b hb=>by have h1:=hb.1;(try simp only[World.setCell,Array.size_modify] at h1);have h3:w5.heap.size<=b:=h1;exact⟨by show w.heap.size<b;omega,by show b≠w.heap.size+1;omega⟩));clear F;clear K;obtain⟨⟨o,q,r,s,t,v,x⟩,y,z,A,B,C,D,E⟩:=bI i.o;go_wp2_with fail;refine(N.o _ ((HP.o.set qo))).mono ?_;rintro e w7 ⟨rfl,k,f⟩;obtain⟨j,i,l,m,HK,HP⟩:=hD6 (aF (bE (j.o) qo) f qo) (aF (Zr (i.o) _) f qo) (aF (bE (l.o) qo) f qo) (aF (bE (m.o) qo) f qo) ((HK.o.set qo).aC1 f) k;have HSt:=aA (aH.aC1 aS (aH.set aS (HSt.o) qh) f qh);have G:=aA (aH.aC1 (bB n) (aH.set (bB n) (G.o) qh) f qh);clear k f o q r s t v x y z A B C D E;have bn:=aD j.o;have bw:=aD i.o;have az:=aD l.o;have bd:=aD m.o;have b5:=HP.o.lt;clear N;go_wp2_with fail;refine(M.o _ (HP.o)).mono ?_;rintro e w8 ⟨Z,rfl,F,k,f⟩;obtain⟨oa,oc,rfl,ol⟩:=F.slice;obtain⟨j,i,l,m,HK,HP⟩:=hD6 (aF (j.o) f qo) (aF (i.o) f qo) (aF (l.o) f qo) (aF (m.o) f qo) (HK.o.aC1 f) k;have HSt:=aA (aH.aC1 aS (HSt.o) f qh);have G:=aA (aH.aC1 (bB n) (G.o) f qh)
 clear k f;have bo:=aD j.o;have bx:=aD i.o;have a1:=aD l.o;have be:=aD m.o;have b6:=HP.o.lt;have HSo:=aA (aH.more aO (aH.inb aO F) (ok':=fun b=>w.heap.size<b/\b≠w.heap.size+1) (fun b hb=>by have h1:=hb.1;(try simp only[World.setCell,Array.size_modify] at h1);have h3:w7.heap.size<=b:=h1;exact⟨by show w.heap.size<b;omega,by show b≠w.heap.size+1;omega⟩));clear F;clear M;obtain⟨⟨o,q,r,s,t,v,x⟩,y,z,A,B,C,D,E⟩:=bI i.o;obtain⟨⟨R0,R1,R2,R3,R4,R5,R6⟩,ag,ah,ai,aj,ak,al,an⟩:=bI j.o;go_wp2;refine bR (.agg #[.string W.1,.bool true,.int .i64 H.1,.slice ta X.1.length tc,.slice none 0 0,.slice ba Y.1.length bc,.slice oa r8.1.length oc]) ?_;have ae:=aa.o;have ad:dE.length=6:=rfl;rw[ad] at ae;refine⟨_,_,_,_,rfl,⟨lT ab.o (by unfold cQ;omega),by unfold bK;show _<=H.1/\H.1<=_;omega,?_,?_,?_,?_⟩,?_,?_⟩
 .exact QAO
 .exact aH.nil
 .exact aH.more (bB n) (aH.set (bB n) (aH.set (bB n) (aH.set (bB n) (aH.set (bB n) (aH.set (bB n) (aH.set (bB n) (aH.set (bB n) (aH.set (bB n) (G.o) qh) qh) qh) qh) qh) qh) qh) qh) (fun b hb=>by have:=hb.1;show w.heap.size<=b;omega)
 .exact QAP
 .exact QCw
 .exact QCm
theorem BJ{L:List Tok}{n:Nat}(hn:n<=3)(T:Toks L){p:PS}(d:Int)(hd:d=4 - (n:Int))(hp:p.at_<L.length)(af:p.aCM<=64)(g:Nat)(w:World)(h:PW L w g p)(Q:(aZ L [str "policy",str "set"] p).1≠2):
 Calls prog 78 #[.pointer (some ⟨g,0,none⟩),.int .i64 d] w (wJ n L g w (cO L n p).1 (cO L n p).2):=by
 have hL:=T.len;have aq:=h.lt;have HP:=aA h;have m1:=dR T [str "policy",str "set"] hp;have m2:=jC T m1.lt;have m3:=dR T dE m2.lt;have m4:=lP T m3.lt;have m5:=fY T qX m4.lt;have m15:=m1.trans (m2.trans (m3.trans (m4.trans m5)));have S:=m15.aDt af;have m6:=sQ T L.length [] m5.lt;have m7:=fY T yD m6.lt;have I:=aA (fun a c w h hw=>nC T [str "policy",str "set"] a c 2 rfl qe hp g w h hw);have R:=aA (fun w h=>rB T m1.lt g w h);have J:=aA (fun a c w h hw=>nC T dE a c 6 rfl qe m2.lt g w h hw);have P:=aA (fun w h=>tL T m3.lt g w h);have O:=aA (fun w h=>mF T qX m4.lt g w h);have K:=aA (fun w h=>Ox T m5.lt S g w h);have N:=aA (fun w h=>mF T yD m6.lt g w h);have M:=aA (fun w h=>uY T m7.lt g w h);have ab:=aA (rF T m1.lt);have aa:=aA (nN (L:=L) dE (bT L (aZ L [str "policy",str "set"] p).2).2);have d1:1<=d:=qo;have d2:d<=4:=qo;rw[UQ L n p Q];unfold wJ;unfold iI at P M K;clear h m1 m2 m3 m4 m5 m6 m7 m15 S hd;generalize aZ L [str "policy",str "set"] p=U at *;generalize bT L U.2=V at *;generalize aZ L dE V.2=H at *;generalize bU L H.2=W at *;generalize eH L qX W.2=p5 at *;generalize iH L L.length [] p5=X at *;generalize eH L yD X.2=p7 at *;generalize gL L p7=r8 at *;rw[vS,JM] at I;rw[show dE=[⟨#[100,101,110,121,111,118,101,114]⟩,⟨#[112,101,114,109,105,116,111,118,101,114]⟩,⟨#[102,105,114,115,116]⟩,⟨#[111,110,108,121]⟩,⟨#[100,101,110,121,117,110,108,101,115,115]⟩,⟨#[112,101,114,109,105,116,117,110,108,101,115,115]⟩] from by kernel_rfl] at J;rw[SK] at O;rw[SL] at N;have ao:(U.1==2)=false:=bN.2 Q;clear Q
 dsimp only;go_enter func78,ntmps78;have HK:=aA (cW.refl w.heap.size g w);go_wp2_with fail;refine(I.o _ _ _ (HP.o.alloc.alloc.alloc) (nD _ _ _ _ _ qs rfl)).mono ?_;rintro e w1 ⟨rfl,k,f⟩;obtain⟨j,i,l,HK,HP⟩:=gC (aF (aE (aE (aK _ _ _ qs) (aB _ _)) (aB _ _)) f qo:w1.heap[w.heap.size]? =some (.cells vZ 38 (0,0))) (aF (aE (aK _ _ _ qs) (aB _ _)) f qo:w1.heap[w.heap.size+1]? =some (.cells vZ 38 (0,0))) (aF (aK _ _ _ qs) f qo:w1.heap[w.heap.size+2]? =some (.cells #[.string ⟨#[112,111,108,105,99,121]⟩,.string ⟨#[115,101,116]⟩] 9 (0,0))) (HK.o.alloc.alloc.alloc.aC1 f) k;clear k f;have bf:=aD j.o;have bp:=aD i.o;have ar:=aD l.o;have bz:=HP.o.lt;clear I;obtain⟨⟨o,q,r,s,t,v,x⟩,y,z,A,B,C,D,E⟩:=bI i.o;go_wp2_with fail;refine(R.o _ ((HP.o.set qo))).mono ?_;rintro e w2 ⟨rfl,k,f⟩;obtain⟨j,i,l,HK,HP⟩:=gC (aF (bE (j.o) qo) f qo) (aF (Ri (i.o) _) f qo) (aF (bE (l.o) qo) f qo) ((HK.o.set qo).aC1 f) k;clear k f o q r s t v x y z A B C D E;have bg:=aD j.o;have bq:=aD i.o;have au:=aD l.o;have b0:=HP.o.lt;clear R;obtain⟨⟨o,q,r,s,t,v,x⟩,y,z,A,B,C,D,E⟩:=bI i.o;go_wp2_with fail;refine(J.o _ _ _ ((HP.o.set qo).alloc) (nD _ _ _ _ _ qs rfl)).mono ?_;rintro e Z ⟨rfl,k,f⟩;obtain⟨j,i,l,m,HK,HP⟩:=hD6 (aF (aE (bE (j.o) qo) (aB _ _)) f qo) (aF (aE (Rh (i.o) _) (aB _ _)) f qo) (aF (aE (bE (l.o) qo) (aB _ _)) f qo) (aF (aK _ _ _ qs) f qo:Z.heap[w2.heap.size]? =some (.cells alW 9 (0,0))) ((HK.o.set qo).alloc.aC1 f) k;clear k f o q r s t v x y z A B C D E;have bh:=aD j.o;have br:=aD i.o;have av:=aD l.o;have a6:=aD m.o
 have b1:=HP.o.lt;clear J;obtain⟨⟨o,q,r,s,t,v,x⟩,y,z,A,B,C,D,E⟩:=bI i.o;go_wp2_with fail;refine(P.o _ ((HP.o.set qo))).mono ?_;rintro e w4 ⟨Y,rfl,F,k,f⟩;obtain⟨ta,tc,rfl,tl⟩:=F.slice;obtain⟨j,i,l,m,HK,HP⟩:=hD6 (aF (bE (j.o) qo) f qo) (aF (Rj (i.o) _) f qo) (aF (bE (l.o) qo) f qo) (aF (bE (m.o) qo) f qo) ((HK.o.set qo).aC1 f) k;clear k f o q r s t v x y z A B C D E;have bj:=aD j.o;have bs:=aD i.o;have aw:=aD l.o;have a7:=aD m.o;have b2:=HP.o.lt;have HSt:=aA (aH.more aS (aH.inb aS F) (ok':=fun b=>w.heap.size<b/\b≠w.heap.size+1) (fun b hb=>by have h1:=hb.1;(try simp only[World.setCell,Array.size_modify] at h1);have h3:Z.heap.size<=b:=h1;exact⟨by show w.heap.size<b;omega,by show b≠w.heap.size+1;omega⟩));clear F;clear P;obtain⟨⟨o,q,r,s,t,v,x⟩,y,z,A,B,C,D,E⟩:=bI i.o;go_wp2_with fail;refine(O.o _ ((HP.o.set qo))).mono ?_;rintro e w5 ⟨rfl,k,f⟩;obtain⟨j,i,l,m,HK,HP⟩:=hD6 (aF (bE (j.o) qo) f qo) (aF (JO (i.o) _) f qo) (aF (bE (l.o) qo) f qo) (aF (bE (m.o) qo) f qo) ((HK.o.set qo).aC1 f) k;have HSt:=aA (aH.aC1 aS (aH.set aS (HSt.o) qh) f qh);clear k f o q r s t v x y z A B C D E;have bk:=aD j.o;have bt:=aD i.o;have ax:=aD l.o;have a8:=aD m.o;have b3:=HP.o.lt;clear O;obtain⟨⟨o,q,r,s,t,v,x⟩,y,z,A,B,C,D,E⟩:=bI i.o;go_wp2_with fail;refine(K.o _ (HP.o)).mono ?_;rintro e w6 ⟨Y,rfl,F,k,f⟩;obtain⟨ba,bc,rfl,bl⟩:=F.slice;obtain⟨j,i,l,m,HK,HP⟩:=hD6 (aF (j.o) f qo) (aF (i.o) f qo) (aF (l.o) f qo) (aF (m.o) f qo) (HK.o.aC1 f) k
 have HSt:=aA (aH.aC1 aS (HSt.o) f qh);clear k f o q r s t v x y z A B C D E;have bm:=aD j.o;have bu:=aD i.o;have ay:=aD l.o;have bb:=aD m.o;have b4:=HP.o.lt;have G:=aA (aH.more bM (aH.inb bM F) (ok':=fun b=>w.heap.size<b/\b≠w.heap.size+1) (fun b hb=>by have h1:=hb.1;(try simp only[World.setCell,Array.size_modify] at h1);have h3:w5.heap.size<=b:=h1;exact⟨by show w.heap.size<b;omega,by show b≠w.heap.size+1;omega⟩));clear F;clear K;obtain⟨⟨o,q,r,s,t,v,x⟩,y,z,A,B,C,D,E⟩:=bI i.o;go_wp2_with fail;refine(N.o _ ((HP.o.set qo))).mono ?_;rintro e w7 ⟨rfl,k,f⟩;obtain⟨j,i,l,m,HK,HP⟩:=hD6 (aF (bE (j.o) qo) f qo) (aF (Zq (i.o) _) f qo) (aF (bE (l.o) qo) f qo) (aF (bE (m.o) qo) f qo) ((HK.o.set qo).aC1 f) k;have HSt:=aA (aH.aC1 aS (aH.set aS (HSt.o) qh) f qh);have G:=aA (aH.aC1 bM (aH.set bM (G.o) qh) f qh);clear k f o q r s t v x y z A B C D E;have bn:=aD j.o;have bw:=aD i.o;have az:=aD l.o;have bd:=aD m.o;have b5:=HP.o.lt;clear N;go_wp2_with fail;refine(M.o _ (HP.o)).mono ?_;rintro e w8 ⟨Y,rfl,F,k,f⟩;obtain⟨oa,oc,rfl,ol⟩:=F.slice;obtain⟨j,i,l,m,HK,HP⟩:=hD6 (aF (j.o) f qo) (aF (i.o) f qo) (aF (l.o) f qo) (aF (m.o) f qo) (HK.o.aC1 f) k;have HSt:=aA (aH.aC1 aS (HSt.o) f qh);have G:=aA (aH.aC1 bM (G.o) f qh);clear k f
 have bo:=aD j.o;have bx:=aD i.o;have a1:=aD l.o;have be:=aD m.o;have b6:=HP.o.lt;have HSo:=aA (aH.more aO (aH.inb aO F) (ok':=fun b=>w.heap.size<b/\b≠w.heap.size+1) (fun b hb=>by have h1:=hb.1;(try simp only[World.setCell,Array.size_modify] at h1);have h3:w7.heap.size<=b:=h1;exact⟨by show w.heap.size<b;omega,by show b≠w.heap.size+1;omega⟩));clear F;clear M;obtain⟨⟨o,q,r,s,t,v,x⟩,y,z,A,B,C,D,E⟩:=bI i.o;obtain⟨⟨R0,R1,R2,R3,R4,R5,R6⟩,ag,ah,ai,aj,ak,al,an⟩:=bI j.o;go_wp2;refine bR (.agg #[.string V.1,.bool false,.int .i64 H.1,.slice ta W.1.length tc,.slice ba X.1.length bc,.slice none 0 0,.slice oa r8.1.length oc]) ?_;have ae:=aa.o;have ad:dE.length=6:=rfl;rw[ad] at ae;refine⟨_,_,_,_,rfl,⟨lT ab.o (by unfold cQ;omega),by unfold bK;show _<=H.1/\H.1<=_;omega,?_,?_,?_,?_⟩,?_,?_⟩
 .exact QAO
 .exact aH.more bM (aH.set bM (aH.set bM (aH.set bM (aH.set bM (aH.set bM (aH.set bM (aH.set bM (aH.set bM (G.o) qh) qh) qh) qh) qh) qh) qh) qh) (fun b hb=>by have:=hb.1;show w.heap.size<=b;omega)
 .exact aH.nil
 .exact QAP
 .exact QCw
 .exact QCm
theorem KO{L:List Tok}(T:Toks L)(M:AM L):∀n,n<=3->Yb L n
 |0,hn=>fun d a p g w hp b h=>by
  have e:Oy L 0:=fun d a p g w hp b h=>Is T M d (by simpa using a) hp b g w h
  by_cases c:(aZ L [str "policy",str "set"] p).1=2
  .exact GB (n:=0) qo T e d a hp b g w h c
  .exact BJ (n:=0) qo T d a hp b g w h c
 |n+1,hn=>fun d a p g w hp b h=>by
  have e:Oy L (n+1):=fun d a p g w hp b h=>Iu T M (n:=n) qo (KO T M n qo) d (by rw[a];omega) hp b g w h
  by_cases c:(aZ L [str "policy",str "set"] p).1=2
  .exact GB hn T e d a hp b g w h c
  .exact BJ hn T d a hp b g w h c
theorem Yc{p:Prop}(h:p:=by
 go_enter func265,ntmps265;go_wp2;go_ret;exact⟨rfl,rfl⟩):p:=h
theorem GD(a:At)(d:BQ a)(w:World):Calls prog 282 #[oG a] w (aP (.bool (yE a)) w):=by
 unfold aP oG yE;have c:=aA (fun w=>oP a.name (by have:=d.2;unfold cQ at this;unfold maxLen;omega) w);generalize eK a.name=b at *;go_enter func282,ntmps282;go_wp2_with (go_at_call 37;refine(c.o _).mono ?_;rintro e w' ⟨rfl,rfl⟩)
 all_goals go_returns
 all_goals exact⟨bH (by rw[Bool.eq_iff_iff];simp[*]<;>(intros;omega)),by go_grown⟩
theorem UR(n:Nat)(w:World):Calls prog 265 #[.int .i64 n] w (fun e w'=>e=.returned (.int .i64 (oF n))/\w=w'):=by
 unfold oF;by_cases h0:n=0
 .rw[iP h0];have d:((n:Int)==0)=true:=bQ.2 qo;clear h0;exact Yc
 .rw[iN h0];have d:((n:Int)==0)=false:=bN.2 qo;by_cases h8:8<n
  .rw[iP h8];have d8:decide ((n:Int) > 8)=true:=dX qo;clear h0 h8;exact Yc
  .rw[iN h8];have d8:decide ((n:Int) > 8)=false:=dF qo;clear h0 h8;exact Yc
theorem US(m:Ma)(g:tR m)(w:World):Calls prog 281 #[kN m] w (aP (.bool (sN m)) w):=by
 unfold aP kN sN;have a:=aA (fun w=>GD m.aDa g.1 w);have j:=aA (fun w=>nJ m.val.1 m.val.2.1 m.val.2.2 (by have:=g.2.2.2.2;unfold cQ at this;unfold maxLen;omega) w);unfold aP oG at a;unfold lD at j;generalize yE m.aDa=b at *;have e:aT m.val=aT (m.val.1,m.val.2.1,m.val.2.2):=rfl;rw[e];generalize aT (m.val.1,m.val.2.1,m.val.2.2)=c at *;clear e g;obtain⟨q,o⟩:=xE (w.alloc (.cells (JP m) 288));have l:=aA (aK w (.cells (JP m) 288) _ rfl);clear o;go_enter func281,ntmps281;go_wp2_with fail;refine(a.o _).mono ?_;rintro e w1 ⟨rfl,f⟩;have i:=qK l f;have d:=aA (aC (aB w _) f);obtain⟨⟨r,s,t,v,x,y,z⟩,_⟩:=bI i.o;have p:=aD i.o;clear f a
 cases b
 .go_wp2;go_returns;exact⟨rfl,d.o⟩
 .go_wp2_with (go_at_call 40;refine(j.o _).mono ?_;rintro e w2 ⟨rfl,k⟩;have n:=qB d k;clear k)
  all_goals go_returns
  all_goals first
   |exact⟨bH (by rw[Bool.eq_iff_iff];simp[*]<;>(intros;omega)),n.o⟩
   |exact⟨bH (by rw[Bool.eq_iff_iff];simp[*]<;>(intros;omega)),d.o⟩
theorem Sh{p:Prop}(h:p:=by
 go_wp2;go_roundw
 case rel=>exact⟨k+1,qo,by go_num,HR2,HB2⟩
 case measure=>simp[intOf];omega):p:=h
theorem Si{p:Prop}(h:p:=by
 have hk1:¬(k:Int)<(l.length:Int):=qo;obtain rfl:k=l.length:=qo;have HE:=aA (Ix HR.o);clear HR;go_wp2;go_returns;exact⟨by rw[HE.o];rfl,HB.o⟩):p:=h
theorem KP{α:Type}(f:α->Int)(l:List α)(k:Nat)(a:k<l.length):gF f (l.drop k)=if f l[k]≠0 then f l[k] else gF f (l.drop (k+1)):=by
 rw[List.drop_eq_getElem_cons a];rfl
theorem xJ{α:Type}{f:α->Int}{l:List α}{k:Nat}{R:Int}(a:k<l.length)(h:gF f (l.drop k)=R)(h1:f l[k]≠0):R=f l[k]:=by
 rw[<-h,KP f l k a,iP h1]
theorem AN{α:Type}{f:α->Int}{l:List α}{k:Nat}{R:Int}(b:k<l.length)(h:gF f (l.drop k)=R)(h1:f l[k]=0):gF f (l.drop (k+1))=R:=by
 rw[<-h,KP f l k b,iN (fun a=>a h1)]
theorem Ix{α:Type}{f:α->Int}{l:List α}{R:Int}(h:gF f (l.drop l.length)=R):R=0:=by
 rw[<-h,List.drop_length];rfl
theorem Iy{ok:nP}(v:Value)(l:List Ma)(w:World)(h:aH rM w ok v l):Calls prog 266 #[v] w (aP (.int .i64 (rH l)) w):=by
 obtain⟨a,c,rfl,I⟩:=h.slice;have y:=aA h;clear h;unfold aP rH;have o:=aA (UR l.length w);by_cases h0:oF l.length≠0
 .rw[iP h0];have d:(oF l.length != 0)=true:=bne_iff_ne.2 h0;clear h0;generalize oF l.length=F at *;go_enter func266,ntmps266;go_wp2_with fail;refine o.o.mono ?_;rintro e w1 ⟨rfl,rfl⟩;exact FT
 rw[iN h0];have h0:oF l.length=0:=by simpa using h0
 rw[h0] at o;clear h0;obtain⟨res,q⟩:=xE (gF (fun m=>if sN m then 0 else 1) l);rw[<-q];have HR0:Hid (gF (fun m=>if sN m then 0 else 1) (l.drop 0)=res):=aA (by rw[List.drop_zero];exact q.symm);clear q;go_enter func266,ntmps266;go_wp2_with fail;refine o.o.mono ?_;rintro e w1 ⟨rfl,rfl⟩;clear o;go_wp2;go_loopw [14] (fun i wr=>∃k:Nat,k<=l.length/\i=.int .i64 k/\Hid (gF (fun m=>if sN m then 0 else 1) (l.drop k)=res)/\Hid (Below w.heap.size w wr)) (fun i _=>l.length - (intOf i).toNat)
 case atStart=>exact ZE
 case round=>
  clear HR0;obtain⟨k,H,rfl,HR,HB⟩:=hrel;by_cases p:k<l.length
  .have hk1:(k:Int)<(l.length:Int):=qo;obtain⟨b,off,r,rfl,_,G,⟨rfl,t⟩,s⟩:=aH.at eP (y.o.on eP HB.o) p qe;obtain⟨x,z,A,B,C,D,E⟩:=CD s;rw[Nat.add_zero] at x;have n:=aA (fun h1=>xJ p HR.o h1);have j:=aA (fun h1=>AN p HR.o h1);have f:=aA (fun w=>US l[k] t w);unfold aP kN at f;clear s HR t;generalize l[k]=m at *
   cases hm:sN m
   .rw[hm] at f n;have HE:=aA (n.o qe);clear n j hm;go_wp2_with fail;refine(f.o _).mono ?_;rintro e w2 ⟨rfl,g⟩;have HB2:=aA (aC (aC HB.o (aB _ _)) g);clear g f;exact FU
   .rw[hm] at f j;have HR2:=aA (j.o qe);clear n j hm;go_wp2_with fail;refine(f.o _).mono ?_;rintro e w2 ⟨rfl,g⟩;have HB2:=aA (aC (aC HB.o (aB _ _)) g);clear g f x z A B C D E;exact Sh
  .exact Si
theorem Iz{ok:nP}(v:Value)(l:List (List Ma))(w:World)(h:aH (rows rM) w ok v l):Calls prog 247 #[v] w (aP (.int .i64 (rI l)) w):=by
 obtain⟨a,c,rfl,C⟩:=h.slice;have y:=aA h;clear h;unfold aP rI;have j:=aA (UR l.length w);by_cases h0:oF l.length≠0
 .rw[iP h0];have d:(oF l.length != 0)=true:=bne_iff_ne.2 h0;clear h0;generalize oF l.length=z at *;go_enter func247,ntmps247;go_wp2_with fail;refine j.o.mono ?_;rintro e w1 ⟨rfl,rfl⟩;exact FT
 rw[iN h0];have h0:oF l.length=0:=by simpa using h0
 rw[h0] at j;clear h0;obtain⟨res,q⟩:=xE (gF rH l);rw[<-q];have HR0:Hid (gF rH (l.drop 0)=res):=aA (by rw[List.drop_zero];exact q.symm);clear q;go_enter func247,ntmps247;go_wp2_with fail;refine j.o.mono ?_;rintro e w1 ⟨rfl,rfl⟩;clear j;go_wp2;go_loopw [15] (fun i wr=>∃k:Nat,k<=l.length/\i=.int .i64 k/\Hid (gF rH (l.drop k)=res)/\Hid (Below w.heap.size w wr)) (fun i _=>l.length - (intOf i).toNat)
 case atStart=>exact ZE
 case round=>
  clear HR0;obtain⟨k,B,rfl,HR,HB⟩:=hrel;by_cases p:k<l.length
  .have hk1:(k:Int)<(l.length:Int):=qo;obtain⟨b,off,r,rfl,_,A,⟨D,rfl,s⟩,x⟩:=aH.at dO (y.o.on dO HB.o) p qe;obtain⟨E,F,rfl,_⟩:=s.slice;have t:=x 0 _ rfl;rw[Nat.add_zero,Nat.mul_one] at t;have o:=aA (fun h1=>xJ p HR.o h1);have n:=aA (fun h1=>AN p HR.o h1);have f:=aA (Iy _ l[k] wr s);unfold aP at f;clear x HR s;by_cases he:rH l[k]=0
   .have HR2:=aA (n.o he);rw[he] at f;clear o n he;generalize l[k]=m at *;go_wp2_with fail;refine f.o.mono ?_;rintro e w2 ⟨rfl,g⟩;have HB2:=qB HB g;clear g f t;exact Sh
   .have HE:=aA (o.o he);have d2:(rH l[k] != 0)=true:=bne_iff_ne.2 he;clear o n he;generalize l[k]=m at *;generalize rH m=em at *;go_wp2_with fail;refine f.o.mono ?_;rintro e w2 ⟨rfl,g⟩;have HB2:=qB HB g;clear g f t;exact FU
  .exact Si
theorem KQ{ok:nP}(v:Value)(l:List (List (List Ma)))(w:World)(h:aH (rows (rows rM)) w ok v l):Calls prog 228 #[v] w (aP (.int .i64 (eX l)) w):=by
 obtain⟨a,c,rfl,A⟩:=h.slice;have x:=aA h;clear h;unfold aP eX;by_cases h0:8<l.length
 .rw[iP h0];have d:decide ((l.length:Int) > 8)=true:=dX qo;clear h0;go_enter func228,ntmps228;exact FT
 rw[iN h0];have d:decide ((l.length:Int) > 8)=false:=dF qo;clear h0;obtain⟨res,p⟩:=xE (gF rI l);rw[<-p];have HR0:Hid (gF rI (l.drop 0)=res):=aA (by rw[List.drop_zero];exact p.symm);clear p;go_enter func228,ntmps228;go_wp2;go_loopw [11] (fun i wr=>∃k:Nat,k<=l.length/\i=.int .i64 k/\Hid (gF rI (l.drop k)=res)/\Hid (Below w.heap.size w wr)) (fun i _=>l.length - (intOf i).toNat)
 case atStart=>exact ZE
 case round=>
  clear HR0;obtain⟨k,z,rfl,HR,HB⟩:=hrel;by_cases o:k<l.length
  .have hk1:(k:Int)<(l.length:Int):=qo;obtain⟨b,off,r,rfl,_,y,⟨B,rfl,q⟩,t⟩:=aH.at aS (x.o.on aS HB.o) o qe;obtain⟨C,D,rfl,_⟩:=q.slice;have s:=t 0 _ rfl;rw[Nat.add_zero,Nat.mul_one] at s;have n:=aA (fun h1=>xJ o HR.o h1);have j:=aA (fun h1=>AN o HR.o h1);have f:=aA (Iz _ l[k] wr q);unfold aP at f;clear t HR q;by_cases he:rI l[k]=0
   .have HR2:=aA (j.o he);rw[he] at f;clear n j he;generalize l[k]=m at *;go_wp2_with fail;refine f.o.mono ?_;rintro e w2 ⟨rfl,g⟩;have HB2:=qB HB g;clear g f s;exact Sh
   .have HE:=aA (n.o he);have d2:(rI l[k] != 0)=true:=bne_iff_ne.2 he;clear n j he;generalize l[k]=m at *;generalize rI m=em at *;go_wp2_with fail;refine f.o.mono ?_;rintro e w2 ⟨rfl,g⟩;have HB2:=qB HB g;clear g f s;exact FU
  .exact Si
theorem Ja{p:Prop}(h:p:=by
 go_wp2;go_returns;exact⟨by rw[HE.o];rfl,aC HB.o (aB _ _)⟩):p:=h
theorem UT{ok:nP}(v:Value)(l:List Ob)(w:World)(h:aH jU w ok v l):Calls prog 229 #[v] w (aP (.int .i64 (lC l)) w):=by
 obtain⟨a,c,rfl,N⟩:=h.slice;have D:=aA h;clear h;unfold aP lC;by_cases h0:8<l.length
 .rw[iP h0];have d:decide ((l.length:Int) > 8)=true:=dX qo;clear h0;go_enter func229,ntmps229;exact FT
 rw[iN h0];have d:decide ((l.length:Int) > 8)=false:=dF qo;clear h0;obtain⟨f,t⟩:∃f:Ob->Int,f=(fun o:Ob=>if (1<=o.on/\o.on<=2)/\(1<=o.aCJ/\o.aCJ<=4)/\eK o.arg=true then (0:Int) else 1):=⟨_,rfl⟩;rw[<-t];have j:Hid (∀o:Ob,¬((1<=o.on/\o.on<=2)/\(1<=o.aCJ/\o.aCJ<=4)/\eK o.arg=true)->f o=1):=aA (fun o h=>by rw[t];exact iN h);have n:Hid (∀o:Ob,((1<=o.on/\o.on<=2)/\(1<=o.aCJ/\o.aCJ<=4)/\eK o.arg=true)->f o=0):=aA (fun o h=>by rw[t];exact iP h);clear t;obtain⟨res,z⟩:=xE (gF f l);rw[<-z];have HR0:Hid (gF f (l.drop 0)=res):=aA (by rw[List.drop_zero];exact z.symm);clear z;go_enter func229,ntmps229;go_wp2;go_loopw [10] (fun i wr=>∃k:Nat,k<=l.length/\i=.int .i64 k/\Hid (gF f (l.drop k)=res)/\Hid (Below w.heap.size w wr)) (fun i _=>l.length - (intOf i).toNat)
 case atStart=>exact ZE
 case round=>
  clear HR0;obtain⟨k,M,rfl,HR,HB⟩:=hrel;by_cases y:k<l.length
  .have hk1:(k:Int)<(l.length:Int):=qo;obtain⟨b,off,r,rfl,_,L,⟨rfl,B⟩,A⟩:=aH.at aO (D.o.on aO HB.o) y qe;obtain⟨C,J,K⟩:=cR3 A;rw[Nat.add_zero] at C;have m:=aA (fun h1=>xJ y HR.o h1);have p:=aA (fun h1=>AN y HR.o h1);have s:=aA (fun w=>oP l[k].arg (by have:=B.2.2;unfold cQ at this;unfold maxLen;omega) w);clear A HR B;generalize l[k]=o at *;by_cases h1:o.on<1
   .have HE:Hid (res=1):=aA (by
     have g:=j.o o (by rintro⟨x,a2,_⟩;omega);rw[m.o (by rw[g];decide),g])
    clear m p n j;have E:decide (o.on<1)=true:=dX qo;clear h1;exact Ja
   have E:decide (o.on<1)=false:=dF qo;by_cases h2:2<o.on
   .have HE:Hid (res=1):=aA (by
     have g:=j.o o (by rintro⟨x,a2,_⟩;omega);rw[m.o (by rw[g];decide),g])
    clear m p n j;have F:decide (o.on > 2)=true:=dX qo;clear h2;exact Ja
   have F:decide (o.on > 2)=false:=dF qo;by_cases h3:o.aCJ<1
   .have HE:Hid (res=1):=aA (by
     have g:=j.o o (by rintro⟨x,a2,_⟩;omega);rw[m.o (by rw[g];decide),g])
    clear m p n j;have G:decide (o.aCJ<1)=true:=dX qo;clear h3;exact Ja
   have G:decide (o.aCJ<1)=false:=dF qo;by_cases h4:4<o.aCJ
   .have HE:Hid (res=1):=aA (by
     have g:=j.o o (by rintro⟨x,a2,_⟩;omega);rw[m.o (by rw[g];decide),g])
    clear m p n j;have H:decide (o.aCJ > 4)=true:=dX qo;clear h4;exact Ja
   have H:decide (o.aCJ > 4)=false:=dF qo
   cases q:eK o.arg
   .have I:=q;rw[q] at s;have HE:Hid (res=1):=aA (by
     have g:=j.o o (by rintro⟨_,_,a3⟩;rw[q] at a3;cases a3);rw[m.o (by rw[g];decide),g])
    clear m p n j;clear q I h1 h2 h3 h4;go_wp2_with fail;refine(s.o _).mono ?_;rintro e w2 ⟨rfl,rfl⟩;clear s;exact Ja
   .rw[q] at s;have HR2:=aA (p.o (n.o o ⟨⟨qo,qo⟩,⟨qo,qo⟩,q⟩));have HB2:=qB HB (aB _ (.cells #[.int .i64 o.on,.int .i64 o.aCJ,.string o.arg] 191));clear q h1 h2 h3 h4 m p n j;go_wp2_with fail;refine(s.o _).mono ?_;rintro e w2 ⟨rfl,rfl⟩;clear s C J K;exact Sh
  .exact Si
theorem QDe{p:Prop}(h:p:=by
 go_wp2
 all_goals go_returns
 all_goals exact⟨bH (by rw[Bool.eq_iff_iff];simp[*]),HB.o⟩):p:=h
theorem GF(b:bY):b=ByteArray.empty↔b.toList=[]:=by
 rw[Lib.toList_data];constructor
 .rintro rfl;rfl
 .intro h
  apply ByteArray.ext
  apply Array.ext'
  rw[h];rfl
theorem UU(v:V3):(decide (v=bD))=decide (v.1=0/\v.2.1=0/\v.2.2.toList=[]):=by
 obtain⟨a,b,c⟩:=v;rw[Bool.eq_iff_iff];simp[bD,<-GF]
theorem UW(v:At):(decide (v=uJ))=decide (v.cat=0/\v.name.toList=[]/\v.aDi=false):=by
 obtain⟨a,b,c⟩:=v;rw[Bool.eq_iff_iff];simp[uJ,<-GF]
theorem Dj(n:No)(i:oO n)(w:World):Calls prog 268 #[jK n] w (aP (.bool (qP n)) w):=by
 unfold aP jK qP;have f:=aA (fun w=>GD n.aDa i.2.2 w);have g:=aA (fun w=>nJ n.val.1 n.val.2.1 n.val.2.2 (by have:=i.2.1.2.2;unfold cQ at this;unfold maxLen;omega) w);unfold aP oG at f;unfold lD at g;generalize yE n.aDa=b at *;have e:aT n.val=aT (n.val.1,n.val.2.1,n.val.2.2):=rfl;rw[e];generalize aT (n.val.1,n.val.2.1,n.val.2.2)=c at *;clear e i;have j:=aA (aK w (.cells (iO n) 301) _ rfl);have k:=aA (aB w (.cells (iO n) 301));by_cases h1:n.op=1
 .rw[iP h1];have d1:(n.op==1)=true:=bQ.2 h1;clear h1 f;rw[UW];go_enter func268,ntmps268;go_wp2_with fail;refine(g.o _).mono ?_;rintro e w1 ⟨rfl,a⟩;have d:=qK j a;have HB:=qB k a;obtain⟨⟨m,o,p,q,r,s,t⟩,_⟩:=bI d.o;have l:=aD d.o;clear a g
  cases c
  .go_wp2;go_returns;exact⟨rfl,HB.o⟩
  .exact QDe
 rw[iN h1];have d1:(n.op==1)=false:=bN.2 h1;clear h1 g;by_cases h2:n.op=2
 .rw[iP h2];have d2:(n.op==2)=true:=bQ.2 h2;clear h2;rw[UU];go_enter func268,ntmps268;go_wp2_with fail;refine(f.o _).mono ?_;rintro e w1 ⟨rfl,a⟩;have d:=qK j a;have HB:=qB k a;obtain⟨⟨m,o,p,q,r,s,t⟩,_⟩:=bI d.o;have l:=aD d.o;clear a f
  cases b
  .go_wp2;go_returns;exact⟨rfl,HB.o⟩
  .exact QDe
 rw[iN h2];have d2:(n.op==2)=false:=bN.2 h2;clear h2 f;rw[UU,UW];go_enter func268,ntmps268;go_wp2
 all_goals go_returns
 all_goals exact⟨bH (by rw[Bool.eq_iff_iff];simp[*]),aB _ _⟩
theorem QBF{p:Prop}(h:p:=by
 have B0:=aA (aK w (.cells #[.bool true] 4) _ rfl);have HB0:=aA (aB w (.cells #[.bool true] 4));go_enter func267,ntmps267;go_wp2;go_returns;exact⟨_,rfl,HB0.o,xK (l:=[true]) B0.o (lR _) rfl rfl qe⟩):p:=h
theorem Sj{p:Prop}(h:p:=by
 go_enter func267,ntmps267;go_wp2;go_returns;exact⟨_,rfl,Below.refl _ _,aH.nil⟩):p:=h
theorem GG(w:World)(ok:nP):∀l:List Bool,aX (DA w ok) (l.map Value.bool) l
 | []=>rfl
 |x::l=>⟨[.bool x],l.map Value.bool,rfl,⟨rfl,trivial⟩,GG w ok l⟩
theorem xK{w:World}{ok:nP}{b:Nat}{cs:Array Value}{e:TypeId}{fr:Nat×Nat}{l:List Bool}{c n:Nat}(d:w.heap[b]? =some (.cells cs e fr))(j:ok b)(f:cs.toList=l.map Value.bool)(g:l.length=n)(k:n<=1000000):aH DA w ok (.slice (some ⟨b,0,none⟩) n c) l:=by
 refine⟨_,c,l.map Value.bool,by rw[g],fun _=>⟨b,0,rfl,j,fun i x a=> ?_⟩,GG w ok l,qo⟩;rw[<-f] at a;simp only[World.cell?,d,Nat.zero_add];simpa using a
def DL(op:Int)(w:World)(e:Ending)(w':World):Prop:=
 ∃v,e=.returned (.tuple #[v,.bool (mO op).isSome])/\Below w.heap.size w w'/\aH DA w' (fun b=>w.heap.size<=b) v ((mO op).getD [])
theorem Jb(op:Int)(w:World):Calls prog 267 #[.int .i64 op] w (DL op w):=by
 unfold DL mO;by_cases h1:op=1
 .subst h1;rw[iP (.inl rfl)];exact Sj
 by_cases h2:op=2
 .subst h2;rw[iP (.inr rfl)];exact Sj
 rw[iN qo];have d1:(op==1)=false:=bN.2 h1;have d2:(op==2)=false:=bN.2 h2;clear h1 h2;by_cases h1:op=3
 .subst h1;rw[iP (.inl rfl)];exact QBF
 by_cases h2:op=4
 .subst h2;rw[iP (.inr rfl)];exact QBF
 rw[iN qo];have d3:(op==3)=false:=bN.2 h1;have d4:(op==4)=false:=bN.2 h2;clear h1 h2;by_cases h1:op=5
 .subst h1;rw[iP rfl];have B0:=aA (aK w (.cells #[.bool true,.bool false] 4) _ rfl);have HB0:=aA (aB w (.cells #[.bool true,.bool false] 4));go_enter func267,ntmps267;go_wp2;go_returns;exact⟨_,rfl,HB0.o,xK (l:=[true,false]) B0.o (lR _) rfl rfl qe⟩
 rw[iN h1];have d5:(op==5)=false:=bN.2 h1;clear h1;by_cases h1:op=11
 .subst h1;rw[iP rfl];have B0:=aA (aK w (.cells #[.bool false] 4) _ rfl);have HB0:=aA (aB w (.cells #[.bool false] 4));go_enter func267,ntmps267;go_wp2;go_returns;exact⟨_,rfl,HB0.o,xK (l:=[false]) B0.o (lR _) rfl rfl qe⟩
 rw[iN h1];have d11:(op==11)=false:=bN.2 h1;clear h1;by_cases h1:6<=op
 .have d6:decide (op ≥ 6)=true:=dX h1;by_cases h2:op<=13
  .rw[iP ⟨h1,h2⟩];have d7:decide (op<=13)=true:=dX h2;clear h1 h2;have B0:=aA (aK w (.cells #[.bool false,.bool false] 4) _ rfl);have HB0:=aA (aB w (.cells #[.bool false,.bool false] 4));go_enter func267,ntmps267;go_wp2;go_returns;exact⟨_,rfl,HB0.o,xK (l:=[false,false]) B0.o (lR _) rfl rfl qe⟩
  .rw[iN (fun h=>h2 h.2)];have d7:decide (op<=13)=false:=dF h2;clear h1 h2;exact Sj
 .rw[iN (fun h=>h1 h.1)];have d6:decide (op ≥ 6)=false:=dF h1;clear h1;exact Sj
theorem Yd{p:Prop}(h:p:=by
 go_wp2;go_returns;rw[HE.o];exact⟨_,rfl,HB.o.mono hbase,aM.nil⟩):p:=h
theorem Sk:dV prog 345 4 1 1:=fP (z:= .bool false) underlying345 (by kernel_rfl) rfl qe
def IV(l:List Bool)(n:No)(base:Nat)(w:World)(e:Ending)(w':World):Prop:=
 ∃v,e=.returned (.tuple #[v,.bool (lA l n).isSome])/\Below base w w'/\aM DA 1 4 w' base (fun _=>True) v ((lA l n).getD [])
theorem Dk{l m:List Bool}{a k:Nat}(h1:a+k<l.length)(h2:k<m.length):(l.drop (a+k)=m.drop k)↔(l[a+k]=m[k]/\l.drop (a+(k+1))=m.drop (k+1)):=by
 rw[List.drop_eq_getElem_cons h1,List.drop_eq_getElem_cons h2,List.cons.injEq];rfl
theorem Dl{l:List Bool}{n:No}(h:mO n.op=none):lA l n=none:=by unfold lA;rw[h]
theorem DM{l m:List Bool}{n:No}(h:mO n.op=some m)(h2:¬(qP n=true/\m.length<=l.length/\l.drop (l.length - m.length)=m)):lA l n=none:=by unfold lA;rw[h];exact iN h2
theorem Dm{l m:List Bool}{n:No}{q:Nat}(a:l.length=q+m.length)(h:mO n.op=some m)(h1:qP n=true)(h2:l.drop q=m):lA l n=some (l.take q++[decide (n.op=2)]):=by
 have e:l.length - m.length=q:=qo;unfold lA;rw[h];simp only[e];exact iP ⟨h1,qo,h2⟩
theorem IW(v:Value)(l:List Bool)(n:No)(ag:oO n)(base:Nat)(w:World)(h:aM DA 1 4 w base (fun _=>True) v l)(au:l.length<=100)(hbase:base<=w.heap.size):Calls prog 248 #[v,jK n] w (IV l n base w):=by
 obtain⟨a,c,rfl⟩:=h.slice;have G:=aA h;have N:=aA (fun w=>Jb n.op w);have K:=aA (fun w=>Dj n ag w);unfold DL at N;unfold aP jK at K;unfold IV jK;have B0:=aA (aK w (.cells (iO n) 301) _ rfl);have ad:=aA (aB w (.cells (iO n) 301));clear h;go_enter func248,ntmps248;go_wp2_with fail;refine(N.o _).mono ?_;rintro e w1 ⟨wv,rfl,o,ab⟩;obtain⟨C,HB,y⟩:=aY (aE B0.o o) (aC ad.o o) ab;obtain⟨⟨x0,x1,x2,x3,x4,x5,x6⟩,_⟩:=bI C.o;have hz:=aD C.o;clear o ab N
 cases hw:mO n.op with
 |none=>
  have HE:=aA (Dl (l:=l) hw);simp only[Option.isSome_none];clear hw;exact Yd
 |some m=>
  simp only[Option.isSome_some];rw[hw] at y;simp only[Option.getD_some] at y;go_wp2_with fail;refine(K.o _).mono ?_;rintro e w2 ⟨rfl,o⟩;obtain⟨HB,D,y⟩:=aY (aC HB.o o) (aE C.o o) (y.o.on jO o);clear x0 x1 x2 x3 x4 x5 x6 hz C o K;obtain⟨⟨x0,x1,x2,x3,x4,x5,x6⟩,_⟩:=bI D.o;have hz:=aD D.o;obtain⟨wa,wc,rfl,av⟩:=y.o.slice
  cases B:qP n with
  |false=>
   have HE:=aA (DM (l:=l) hw (fun h=>by rw[B] at h;exact absurd h.1 qe));clear hw B;exact Yd
  |true=>
   by_cases hlen:l.length<m.length
   .have HE:=aA (DM (l:=l) hw (fun h=>by omega));have d:decide ((l.length:Int)<(m.length:Int))=true:=dX qo;clear hw B;exact Yd
   obtain⟨q,Q⟩:∃q,l.length=q+m.length:=⟨l.length - m.length,qo⟩;have d:decide ((l.length:Int)<(m.length:Int))=false:=dF qo;have d2:IntKind.i64.wrap ((l.length:Int) - (m.length:Int))=(q:Int):=by rw[IntWalk.i64_in _ qo];omega
   have E:=aA (fun (hd:¬(l.drop q=m))=>DM (l:=l) (n:=n) hw (fun h=>by rw[show l.length - m.length=q by omega] at h;exact hd h.2.2));have H:=aA (Dm Q hw B);have f:=aA Q;clear hw B Q;obtain⟨res,R⟩:∃res:Prop,res=(l.drop q=m):=⟨_,rfl⟩;rw[<-R] at E H;have af:Hid (aH DA w2 (fun _=>True) (.slice a l.length c) l):=aA ((G.o.on jO HB.o).sl qo _ (fun _ _ _=>trivial) (fun _ _ _=>trivial) jO);have V:Hid ((l.drop (q+0)=m.drop 0)=res):=aA (by rw[Nat.add_zero,List.drop_zero];exact R.symm);clear R;have d3:wrap64 ((l.length:Int) - (m.length:Int))=(q:Int):=by have:=f.o;rw[IntWalk.wrap64_in _ qo];omega
   go_wp2;go_loopw [38] (fun i wr=>∃k:Nat,k<=m.length/\i=.int .i64 k/\Hid ((l.drop (q+k)=m.drop k)=res)/\wr=w2) (fun i _=>m.length - (intOf i).toNat)
   case atStart=>exact⟨0,Nat.zero_le _,rfl,V,rfl⟩
   case round=>
    clear V;obtain⟨k,hk,rfl,x,rfl⟩:=hrel;by_cases Z:k<m.length
    .have ai:(k:Int)<(m.length:Int):=qo;obtain⟨j,hj⟩:=xE (q+k);have ah:j<l.length:=qA f.o;have aq:(j:Int)<(l.length:Int):=qo;have ao:(0:Int)<=(j:Int):=qo;have e1:IntKind.i64.wrap ((q:Int)+(k:Int))=(j:Int):=by rw[IntWalk.i64_in _ qo];omega
     obtain⟨b,off,r,rfl,_,ak,⟨rfl,_⟩,X⟩:=aH.at jO y.o Z qe;have y0:=X 0 _ rfl;rw[Nat.add_zero,Nat.mul_one] at y0;obtain⟨b',aw,r,rfl,_,al,⟨rfl,_⟩,Y⟩:=aH.at jO af.o ah qe;have z0:=Y 0 _ rfl;rw[Nat.add_zero,Nat.mul_one] at z0;have s:=aA (Dk (l:=l) (m:=m) (a:=q) (k:=k) (qA f.o) Z);have U:=aA (fun (hx:q+k<l.length)=>(by subst hj;rfl:l[q+k]=l[j]));clear X Y;rw[U.o _] at s;clear U;generalize l[j]=u at *;generalize m[k]=t at *;by_cases S:u=t
     .subst S;have ae:Hid ((l.drop (q+(k+1))=m.drop (k+1))=res):=aA (by rw[<-x.o];exact propext ⟨fun h=>s.o.2 ⟨rfl,h⟩,fun h=>(s.o.1 h).2⟩);clear s x hj
      cases u
      all_goals
       go_wp2;go_roundw
       case rel=>exact⟨k+1,qo,by go_num,ae,by trivial⟩
       case measure=>simp[intOf];omega
     .have HE:=aA (E.o (by rw[<-x.o];exact fun h=>S (s.o.1 h).1));clear s x hj E H
      cases u<;>cases t
      all_goals first
       |exact absurd rfl S
       |(go_wp2
         go_returns;rw[HE.o];exact⟨_,rfl,HB.o.mono hbase,aM.nil⟩)
    .have ai:¬(k:Int)<(m.length:Int):=qo;have hr:res:=by rw[<-x.o,List.drop_eq_nil_of_le (qA f.o),List.drop_eq_nil_of_le qo]
     have HE:=aA (H.o hr);clear x hr E H;obtain⟨aj,ar,an⟩:=G.o.place;have HC:=aA ((G.o.on jO HB.o).cut jO q (qA f.o));have g:=aA ((aB wr (.cells #[.bool (n.op==2)] 4)).drew);have W:Hid ((wr.alloc (.cells #[.bool (n.op==2)] 4)).drew.heap[wr.heap.size]? =some (.cells #[.bool (n.op==2)] 4 (0,0))):=aA (aK wr (.cells #[.bool (n.op==2)] 4) _ rfl);have F:=aA (HC.o.on jO g.o);have I:base<=wr.heap.size:=lT hbase HB.o.size;have aa:(l.take q).length=q:=by have:=f.o;rw[List.length_take];omega
     have q0:(0:Int)<=(q:Int):=qo;have q1:(q:Int)<=(c:Int):=qA f.o;have q2:(q:Int)<=(l.length:Int):=qA f.o;have T:=aA ((aC HB.o g.o).mono hbase)
     rcases aj with ⟨rfl,rfl⟩|⟨ga,rfl⟩
     .obtain rfl:l=[]:=List.eq_nil_of_length_eq_zero qo;obtain rfl:q=0:=by have:=f.o;simp only[List.length_nil] at this;omega
      have z:=qK D g.o;have M:Hid (some w.heap.size≠(Value.slice none 0 0).ownBlock):=aA (fun h=>(by cases (show some w.heap.size=none from h)));go_wp2;go_region_held3 (fun w'=>w'.cell? ⟨w.heap.size,0,none⟩=some (.int .i64 n.op)) (first|go_keep|assumption) ((refine iV Sk jO (by rfl) (.tmp 54) (.tmp 58) (by rfl) _ (([]:List Bool).take 0) (by rfl) F.o wr.heap.size 1 _ _ _ (n.op==2) (by rfl) W.o ⟨rfl,trivial⟩ (by rw[aa];omega) qe (lT I g.o.size) ?_;intro l' P A' c' w9 A p O;have L:=aA A;have J:=aA (F.o.below T.o p (lR _) (lT I g.o.size));have x9:=(bI ((p.block w.heap.size (aD z.o) M.o).trans z.o)).1.1;clear A p O))
      go_wp2;go_returns;rw[HE.o,<-MN,<-P.o];exact⟨_,rfl,J.o,L.o⟩
     .have z:=qK D g.o;have M:Hid (some w.heap.size≠(Value.slice (some ⟨ga,0,none⟩) q c).ownBlock):=aA (fun h=>qA ((G.o.lt w.heap.size h.symm).2));go_wp2;go_region_held3 (fun w'=>w'.cell? ⟨w.heap.size,0,none⟩=some (.int .i64 n.op)) (first|go_keep|assumption) ((refine iV Sk jO (by rfl) (.tmp 54) (.tmp 58) (by rfl) _ (l.take q) (by rfl) F.o wr.heap.size 1 _ _ _ (n.op==2) (by rfl) W.o ⟨rfl,trivial⟩ (by rw[aa];omega) qe (lT I g.o.size) ?_;intro l' P A' c' w9 A p O;have L:=aA A;have J:=aA (F.o.below T.o p (lR _) (lT I g.o.size));have x9:=(bI ((p.block w.heap.size (aD z.o) M.o).trans z.o)).1.1;clear A p O))
      go_wp2;go_returns;rw[HE.o,<-MN,<-P.o];exact⟨_,rfl,J.o,L.o⟩
end Go.Proofs.YtgoanbpcdhmfkaaGreatDoor
