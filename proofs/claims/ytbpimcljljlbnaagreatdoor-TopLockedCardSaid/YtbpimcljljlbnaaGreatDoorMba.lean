/- Lemmas. -/
import Derived.Test.YtbpimcljljlbnaaGreatDoorMaz
namespace Go.Proofs.YtbpimcljljlbnaaGreatDoor
open Go.RowKit
set_option linter.unusedVariables false
set_option linter.unusedSimpArgs false
set_option maxHeartbeats 16000000
open _root_.Go.Proofs.Tryz
set_option maxRecDepth 20000
theorem QBg{p:Prop}(h:p:=by
 go_wp2_with fail;refine(HLM.o true q hq _ HP1.o).mono ?_;rintro e w2 ⟨rfl,h_,k_⟩;have HP2:=aA h_;have HK2:=aA (HK1.o.aDu k_);have HG2:=aA (HG1.o.aDu (bB (n+1)) k_ hgl);clear h_ k_;obtain⟨A_,c_,c0,c1,c2,c3,c4,hs_⟩:=HP2.o.cells;have hg2:=HP2.o.lt;clear hs_ c0 c1 c2 c4;go_wp2;go_ret;refine⟨_,rfl,?_,?_,HK2.o.end⟩
 .rw[HS.o];exact HG2.o.sl qo _ (fun b hb _=>hb) (fun b hb _=>hb) (bB (n+1))
 .rw[HS.o];exact HP2.o):p:=h
theorem Tg{p:Prop}(h:p:=by
 go_wp2_with fail;refine(HLM.o true q hq _ HP1.o).mono ?_;rintro e w2 ⟨rfl,h_,k_⟩;have HP2:=aA h_;have HK2:=aA (HK1.o.aDu k_);have HG2:=aA (HG1.o.aDu (bB 0) k_ hgl);clear h_ k_;obtain⟨A_,c_,c0,c1,c2,c3,c4,hs_⟩:=HP2.o.cells;have hg2:=HP2.o.lt;clear hs_ c0 c1 c2 c4;go_wp2;go_ret;refine⟨_,rfl,?_,?_,HK2.o.end⟩
 .rw[HS.o];exact HG2.o.sl qo _ (fun b hb _=>hb) (fun b hb _=>hb) (bB 0)
 .rw[HS.o];exact HP2.o):p:=h
theorem QAh{p:Prop}(h:p:=by
 have HLF:=aA (HLM.o false q hq w1 HP1.o);rw[hlf] at HLF;clear HLM hlf;go_wp2_with fail;refine HLF.o.mono ?_;rintro e w3 ⟨rfl,h_,k_⟩;have HP3:=aA h_;have HK3:=aA (HK1.o.aDu k_);have HG3:=aA (HG1.o.aDu (bB (n+1)) k_ hgl);clear h_ k_ HLF HP1 HK1 HG1;obtain⟨A_,c_,c0,c1,c2,c3,c4,hs_⟩:=HP3.o.cells;have hg3:=HP3.o.lt;rw[hqb] at c3;clear hs_ c0 c1 c2 c4;unfold wN at HCX;go_wp2_with fail;refine(HCX.o _ hq hru2 HP3.o).mono ?_;rintro e w4 ⟨vt,vr,vk,vo,rfl,hs_,h_,k_⟩;obtain⟨ta,tc,rfl,_⟩:=hs_.2.2.1.slice;obtain⟨ra,rc,rfl,_⟩:=hs_.2.2.2.1.slice;obtain⟨ka,kc,rfl,_⟩:=hs_.2.2.2.2.1.slice;obtain⟨oa,oc,rfl,_⟩:=hs_.2.2.2.2.2.slice;have HP4:=aA h_;have HK4:=aA (HK3.o.aDu k_);have HG4:=aA (HG3.o.aDu (bB (n+1)) k_ hgl);have HSX:=aA hs_;have hz3:w.heap.size<=w3.heap.size:=HK3.o.size;have HGO:=aA (fun b e=>(HG3.o.lt b e).2);clear hs_ h_ k_ HCX HP3 HK3 HG3 c3;have hz4:w.heap.size<=w4.heap.size:=HK4.o.size;have HX:=aA (aB w4 (.cells (kH r2.1 ta tc ra rc ka kc oa oc) 35));have HXN:=aA (aK w4 (.cells (kH r2.1 ta tc ra rc ka kc oa oc) 35) _ rfl);have HGX:=aA (HG4.o.on (bB (n+1)) HX.o);have HPX:=aA (HP4.o.on HX.o);have HKX:=aA (HK4.o.new HX.o);have HSY:=aA (fN.to_ (fN.more (fN.aDl (fN.inb HSX.o) (aJ HX.o)) (ok':=fun b=>w.heap.size<=b/\b<(w4.alloc (.cells (kH r2.1 ta tc ra rc ka kc oa oc) 35)).heap.size/\some b≠(Value.slice A l.length c).ownBlock) (fun b hb'=>by
  have h1:=hb'.1;have h2:=hb'.2;have h3:w3.heap.size<=b:=h1;refine⟨qo,by rw[World.size_alloc];omega,fun e=> ?_⟩;have:=HGO.o b e.symm;omega)))
 go_wp2_with (at_builtin;refine cC aCR (bB (n+1)) rfl (.tmp 26) (.tmp 30) rfl _ l rfl HGX.o w4.heap.size 1 _ _ _ r2.1 rfl HXN.o HSY.o qo qo (by rw[World.size_alloc];omega) ?_;intro l' hl' A' c' w9 hG hgr hat';have HG5:=aA hG;have HP5:=aA (HPX.o.grown HGX.o hgr hgl);have HK5:=aA (HKX.o.grown HGX.o hgr (lR _));clear hG hgr hat' HX HXN HGX HPX HKX HSX HSY HG4 HP4 HK4)
 rw[<-hl'.o] at HS;have HL2:Hid (l'.length=l.length+1):=aA (by rw[hl'.o,aL,List.length_singleton]);go_roundg f'
 case measure=>rw[HF.o];omega
 case rel=>exact⟨l',_,A',c',rfl,aA ⟨HS.o,hq2,qA HF.o,qA HL2.o,hru3,HG5.o,HP5.o,HK5.o⟩⟩):p:=h
def AQ(L:List Tok):Prop:=∀t∈L,t.aDe=6->t.str.size=1
theorem PE{L:List Tok}(T:Toks L)(M:AQ L)(n:Nat){q:PS}(d:q.at_<L.length)(a:(cL L (str "policy") q||cL L (str "set") q)=true):q.at_<(cP L n q).2.at_:=by
 have hw:(aZ L [str "policy",str "set"] q).2.at_=q.at_+1:=by
  have key:∀(s:bY),s.size≠1->(s=str "policy"\/s=str "set")->cL L s q=true->(aZ L [str "policy",str "set"] q).2.at_=q.at_+1:=by
   intro s b f a;have c:=lI a;have e:(aU L q).aDe=1:=by
    rcases c.2.2 with h|h
    .exact h
    .exfalso;have:=M (aU L q) (by rw[EJ d];exact List.getElem_mem _) h;rw[c.2.1] at this;exact b this
   unfold aZ;dsimp only;rw[iP];refine⟨e,?_,by rw[c.2.1];exact a⟩;rw[c.2.1]
   rcases f with rfl|rfl
   .rw[List.findIdx_cons];simp
   .rw[List.findIdx_cons];by_cases h:str "policy"=str "set"
    .simp[h]
    .rw[dF h];simp[List.findIdx_cons]
  rw[Bool.or_eq_true] at a
  rcases a with a|a
  .exact key _ (by rw[vW];decide) (.inl rfl) a
  .exact key _ (by rw[JR];decide) (.inr rfl) a
 have h1:=dR T [str "policy",str "set"] d;have hm:dK L (aZ L [str "policy",str "set"] q).2 (cP L n q).2:=by
  have h2:=jC T h1.lt;have h3:=dR T dH h2.lt;have h4:=lQ T h3.lt;have h5:=fZ T qY h4.lt;have h15:=h2.trans (h3.trans (h4.trans h5))
  cases n with
  |zero=>
   unfold cP;dsimp only;by_cases b:decide ((aZ L [str "policy",str "set"] q).1=2)=true
   .rw[iP b];have h6:=qR (one:=fun q=>(mB,q)) (fun h=>dK.refl h) true L.length [] h5.lt;exact OE
   .rw[iN b];have h6:=sS T L.length [] h5.lt;exact OE
  |succ n=>
   unfold cP;dsimp only;by_cases b:decide ((aZ L [str "policy",str "set"] q).1=2)=true
   .rw[iP b];have h6:=qR (one:=cP L n) (rQ T n) false L.length [] h5.lt;exact OE
   .rw[iN b];have h6:=sS T L.length [] h5.lt;exact OE
 have:=hm.le;omega
def wN(n:Nat)(L:List Tok)(g:Nat)(w:World)(p:Po)(p':PS)(e:Ending)(w':World):Prop:=
 ∃vt vr vk vo,e=.returned (.agg #[.string p.id,.bool p.set,.int .i64 p.alg,vt,vr,vk,vo])/\fN n w' (fun b=>w.heap.size<=b) p vt vr vk vo/\PW L w' g p'/\aO (fun b=>b≠g) w w'
def Yy(L:List Tok)(n:Nat):Prop:=∀(d:Int),d=4 - (n:Int)->∀p g w,p.at_<L.length->p.aDg<=64->PW L w g p->
 Calls prog 90 #[.pointer (some ⟨g,0,none⟩),.int .i64 d] w (wN n L g w (cP L n p).1 (cP L n p).2)
def Th(n:Nat)(L:List Tok)(one:PS->Po×PS)(deep:Bool)(g:Nat)(w:World)(res:List Po×PS)(f:Nat)(v:Value)(wr:World):Prop:=
 ∃(l:List Po) (q:PS) (A:oD) (c:Nat),v=.slice A l.length c/\Hid (Ar (pZ n) 7 35 L g w f v wr l q (gN L one deep f l q=res))
section
variable {L:List Tok} {one:PS->Po×PS} {deep:Bool} {f:Nat} {l:List Po} {q:PS} {res:List Po×PS}
theorem PF(h:gN L one deep f l q=res)(h1:cL L (str "policy") q=false)(h2:cL L (str "set") q=false):res=(l,q):=by
 cases f with
 |zero=>exact h.symm
 |succ f=>unfold gN at h;rw[iN (by rw[h1,h2];decide)] at h;exact h.symm
theorem PG(h:gN L one deep f l q=res)(c:0<f)(h1:(cL L (str "policy") q||cL L (str "set") q)=true)(h2:(decide (l.length=16)||deep)=true):res=(l,cR L true q)/\(cR L true q).bad≠0:=by
 have b:(cR L true q).bad≠0:=by unfold cR;rw[iP rfl];exact lP 6 _ qe q
 obtain⟨a,rfl⟩:∃a,f=a+1:=⟨f - 1,qo⟩;unfold gN at h;rw[iP h1] at h;dsimp only at h;rw[h2,iP b] at h;exact⟨h.symm,b⟩
theorem PH(h:gN L one deep f l q=res)(b:0<f)(hq:q.bad=0)(h1:(cL L (str "policy") q||cL L (str "set") q)=true)(h2:(decide (l.length=16)||deep)=false):
 ∃a,f=a+1/\gN L one deep a (l++[(one q).1]) (one q).2=res:=by
 obtain⟨a,rfl⟩:∃a,f=a+1:=⟨f - 1,qo⟩;refine⟨a,rfl,?_⟩;unfold gN at h;exact QCs
end
theorem aCR:dV prog 32 35 7 128:=fP (z:= .agg #[.string ByteArray.empty,.bool false,.int .i64 0,.slice none 0 0,.slice none 0 0,.slice none 0 0,.slice none 0 0]) underlying32 (by kernel_rfl) rfl qe
theorem fN.to_{n:Nat}{w:World}{ok:nP}{p:Po}{vt vr vk vo:Value}(h:fN n w ok p vt vr vk vo):pZ (n+1) w ok [.string p.id,.bool p.set,.int .i64 p.alg,vt,vr,vk,vo] p:=⟨vt,vr,vk,vo,rfl,h.1,h.2.1,h.2.2.1,h.2.2.2.1,h.2.2.2.2.1,h.2.2.2.2.2⟩
theorem Jn{L:List Tok}{p:PS}(T:Toks L)(M:AQ L)(d:Int)(H:d=5)(hp:p.at_<L.length)(hru:p.aDg<=64)(g:Nat)(w:World)(h:PW L w g p):
 Calls prog 157 #[.pointer (some ⟨g,0,none⟩),.int .i64 d] w (iJ (pZ 0) L g w (gN L (fun q=>(mB,q)) true L.length [] p).1 (gN L (fun q=>(mB,q)) true L.length [] p).2):=by
 have K:=T.len;have hgl:=h.lt;have HP:=aA h;have F:=aA (fun (s:bY) (q:PS) (hq:q.at_<L.length) w h=>oR s hq K g w h);have HLM:=aA (fun b (q:PS) (hq:q.at_<L.length) w h=>kR b hq K g w h);have R:decide (d > 4)=true:=by rw[H];simp
 have Q:=aA H;obtain⟨res,I⟩:=xE (gN L (fun q=>(mB,q)) true L.length [] p);have HR0:Hid (gN L (fun q=>(mB,q)) true L.length [] p=res):=aA I.symm;rw[<-I];unfold iJ;clear h I H;have HK:=aA (cZ.refl w.heap.size g w);go_enter func157,ntmps157;go_wp2;go_loopg [5] L.length (fun f v wr=>Th 0 L (fun q=>(mB,q)) true g w res f v wr)
 case atStart=>exact Yx
 case round=>
  clear HR0 HP HK;obtain⟨l,q,A,c,rfl,i⟩:=hrel;have hq:=i.o.at_;have U:=i.o.aDg;have S:=i.o.fuel;have hle:=i.o.len;have N:0<gk:=qo;have hlen:l.length<=5000:=qo;have m:=aA (F.o (str "policy") q hq);have x:=aA (F.o (str "set") q hq);clear F;have y:=aA (fun h1 h2=>PF i.o.res h1 h2);have o:=aA (fun h1 h2=>PG i.o.res N h1 h2);have B:=aA (fun hb h1 h2=>PH i.o.res N hb h1 h2);have z:=aA (fun h=>PE T M 0 hq h);rw[vW] at m y o B z;rw[JR] at x y o B z;have C:=aA (fun h=>(lI (L:=L) (s:=⟨#[112,111,108,105,99,121]⟩) (p:=q) h));have D:=aA (fun h=>(lI (L:=L) (s:=⟨#[115,101,116]⟩) (p:=q) h));generalize cL L ⟨#[112,111,108,105,99,121]⟩ q=P at *;generalize cL L ⟨#[115,101,116]⟩ q=O at *
  cases P
  .cases O
   .have HS:=aA (y.o rfl rfl);clear y o B C D z;go_wp2_with fail;refine(m.o _ i.o.pw).mono ?_;rintro e w1 ⟨rfl,a⟩;obtain⟨HP1,HK1,HG1⟩:=aY (i.o.pw.on a) (i.o.aDl.new a) (i.o.row.on (bB 0) a);clear a m;go_wp2_with fail;refine(x.o _ HP1.o).mono ?_;rintro e w2 ⟨rfl,a⟩;obtain⟨HP2,HK2,HG2⟩:=aY (HP1.o.on a) (HK1.o.new a) (HG1.o.on (bB 0) a);clear a x;go_wp2;go_ret;refine⟨_,rfl,?_,?_,HK2.o.end⟩
    .rw[HS.o];exact HG2.o.sl qo _ (fun b hb _=>hb) (fun b hb _=>hb) (bB 0)
    .rw[HS.o];exact HP2.o
   .by_cases h16:l.length=16
    .have i16:((l.length:Int)==16)=true:=bQ.2 qo;obtain⟨r,t⟩:=o.o qs (by rw[dX h16];simp);have HS:=aA r;have G:((cR L true q).bad != 0)=true:=bne_iff_ne.2 t;clear r t y o B C D z;clear h16;go_wp2_with fail;refine(m.o _ i.o.pw).mono ?_;rintro e E ⟨rfl,a⟩;obtain⟨j,n,k⟩:=aY (i.o.pw.on a) (i.o.aDl.new a) (i.o.row.on (bB 0) a);clear a m;go_wp2_with fail;refine(x.o _ j.o).mono ?_;rintro e w1 ⟨rfl,a⟩;obtain⟨HP1,HK1,HG1⟩:=aY (j.o.on a) (n.o.new a) (k.o.on (bB 0) a);clear a x j n k;exact Tg
    .have i16:((l.length:Int)==16)=false:=bN.2 qo;obtain⟨r,t⟩:=o.o qs qs;have HS:=aA r;have G:((cR L true q).bad != 0)=true:=bne_iff_ne.2 t;clear r t y o B C D z;clear h16;go_wp2_with fail;refine(m.o _ i.o.pw).mono ?_;rintro e E ⟨rfl,a⟩;obtain⟨j,n,k⟩:=aY (i.o.pw.on a) (i.o.aDl.new a) (i.o.row.on (bB 0) a);clear a m;go_wp2_with fail;refine(x.o _ j.o).mono ?_;rintro e w1 ⟨rfl,a⟩;obtain⟨HP1,HK1,HG1⟩:=aY (j.o.on a) (n.o.new a) (k.o.on (bB 0) a);clear a x j n k;exact Tg
  .by_cases h16:l.length=16
   .have i16:((l.length:Int)==16)=true:=bQ.2 qo;obtain⟨r,t⟩:=o.o qs (by rw[dX h16];simp);have HS:=aA r;have G:((cR L true q).bad != 0)=true:=bne_iff_ne.2 t;clear r t y o B C D z;clear h16;go_wp2_with fail;refine(m.o _ i.o.pw).mono ?_;rintro e E ⟨rfl,a⟩;obtain⟨j,n,k⟩:=aY (i.o.pw.on a) (i.o.aDl.new a) (i.o.row.on (bB 0) a);clear a m;have HP1:=j;have HK1:=n;have HG1:=k;clear j n k x;obtain⟨w1,J⟩:=xE E;subst J;exact Tg
   .have i16:((l.length:Int)==16)=false:=bN.2 qo;obtain⟨r,t⟩:=o.o qs qs;have HS:=aA r;have G:((cR L true q).bad != 0)=true:=bne_iff_ne.2 t;clear r t y o B C D z;clear h16;go_wp2_with fail;refine(m.o _ i.o.pw).mono ?_;rintro e E ⟨rfl,a⟩;obtain⟨j,n,k⟩:=aY (i.o.pw.on a) (i.o.aDl.new a) (i.o.row.on (bB 0) a);clear a m;have HP1:=j;have HK1:=n;have HG1:=k;clear j n k x;obtain⟨w1,J⟩:=xE E;subst J;exact Tg
theorem Jo{L:List Tok}{p:PS}(T:Toks L)(M:AQ L){n:Nat}(hn:n<=3)(hC:Yy L n)(d:Int)(N:d=4 - (n:Int))(hp:p.at_<L.length)(hru:p.aDg<=64)(g:Nat)(w:World)(h:PW L w g p):
 Calls prog 157 #[.pointer (some ⟨g,0,none⟩),.int .i64 d] w (iJ (pZ (n+1)) L g w (gN L (cP L n) false L.length [] p).1 (gN L (cP L n) false L.length [] p).2):=by
 have R:=T.len;have hgl:=h.lt;have HP:=aA h;have K:=aA (fun (s:bY) (q:PS) (hq:q.at_<L.length) w h=>oR s hq R g w h);have HLM:=aA (fun b (q:PS) (hq:q.at_<L.length) w h=>kR b hq R g w h);have J:=aA hC;have Y:decide (d > 4)=false:=by rw[N];simp;omega
 have Q:=aA N;obtain⟨res,O⟩:=xE (gN L (cP L n) false L.length [] p);have HR0:Hid (gN L (cP L n) false L.length [] p=res):=aA O.symm;rw[<-O];unfold iJ;clear h O N;have HK:=aA (cZ.refl w.heap.size g w);go_enter func157,ntmps157;go_wp2;go_loopg [5] L.length (fun f v wr=>Th (n+1) L (cP L n) false g w res f v wr)
 case atStart=>exact Yx
 case round=>
  clear HR0 HP HK;obtain⟨l,q,A,c,rfl,i⟩:=hrel;have hq:=i.o.at_;have hru2:=i.o.aDg;have Z:=i.o.fuel;have hle:=i.o.len;have S:0<gk:=qo;have hlen:l.length<=5000:=qo;have m:=aA (K.o (str "policy") q hq);have r:=aA (K.o (str "set") q hq);clear K;have z:=aA (fun h1 h2=>PF i.o.res h1 h2);have x:=aA (fun h1 h2=>PG i.o.res S h1 h2);have y:=aA (fun hb h1 h2=>PH i.o.res S hb h1 h2);have t:=aA (fun h=>PE T M n hq h);rw[vW] at m z x y t;rw[JR] at r z x y t;have C:=aA (fun h=>(lI (L:=L) (s:=⟨#[112,111,108,105,99,121]⟩) (p:=q) h));have D:=aA (fun h=>(lI (L:=L) (s:=⟨#[115,101,116]⟩) (p:=q) h));generalize cL L ⟨#[112,111,108,105,99,121]⟩ q=X at *;generalize cL L ⟨#[115,101,116]⟩ q=W at *
  cases X
  .cases W
   .have HS:=aA (z.o rfl rfl);clear z x y C D t;go_wp2_with fail;refine(m.o _ i.o.pw).mono ?_;rintro e w1 ⟨rfl,a⟩;obtain⟨HP1,HK1,HG1⟩:=aY (i.o.pw.on a) (i.o.aDl.new a) (i.o.row.on (bB (n+1)) a);clear a m;go_wp2_with fail;refine(r.o _ HP1.o).mono ?_;rintro e w2 ⟨rfl,a⟩;obtain⟨HP2,HK2,HG2⟩:=aY (HP1.o.on a) (HK1.o.new a) (HG1.o.on (bB (n+1)) a);clear a r;go_wp2;go_ret;refine⟨_,rfl,?_,?_,HK2.o.end⟩
    .rw[HS.o];exact HG2.o.sl qo _ (fun b hb _=>hb) (fun b hb _=>hb) (bB (n+1))
    .rw[HS.o];exact HP2.o
   .by_cases h16:l.length=16
    .have i16:((l.length:Int)==16)=true:=bQ.2 qo;obtain⟨E,F⟩:=x.o qs (by rw[dX h16];simp);have HS:=aA E;have U:((cR L true q).bad != 0)=true:=bne_iff_ne.2 F;clear E F z x y C D t;clear h16;go_wp2_with fail;refine(m.o _ i.o.pw).mono ?_;rintro e I ⟨rfl,a⟩;obtain⟨j,o,k⟩:=aY (i.o.pw.on a) (i.o.aDl.new a) (i.o.row.on (bB (n+1)) a);clear a m;go_wp2_with fail;refine(r.o _ j.o).mono ?_;rintro e w1 ⟨rfl,a⟩;obtain⟨HP1,HK1,HG1⟩:=aY (j.o.on a) (o.o.new a) (k.o.on (bB (n+1)) a);clear a r j o k;exact QBg
    .have i16:((l.length:Int)==16)=false:=bN.2 qo;have hqb:q.bad=0:=(D.o rfl).1;obtain⟨f',G,H⟩:=y.o hqb qs (by rw[dF h16];rfl);have HF:=aA G;have V:=t.o qs;have B:=rQ T n hq;have hru3:=B.aDY hru2;have hq2:=B.lt;have HS:=aA H;have HCX:=aA (J.o d Q.o q g);have hlf:cR L false q=q:=by unfold cR;rw[iN qe]
     clear G H z x y C D t h16 B J;generalize cP L n q=r2 at *;go_wp2_with fail;refine(m.o _ i.o.pw).mono ?_;rintro e I ⟨rfl,a⟩;obtain⟨j,o,k⟩:=aY (i.o.pw.on a) (i.o.aDl.new a) (i.o.row.on (bB (n+1)) a);clear a m;go_wp2_with fail;refine(r.o _ j.o).mono ?_;rintro e w1 ⟨rfl,a⟩;obtain⟨HP1,HK1,HG1⟩:=aY (j.o.on a) (o.o.new a) (k.o.on (bB (n+1)) a);clear a r j o k;exact QAh
  .by_cases h16:l.length=16
   .have i16:((l.length:Int)==16)=true:=bQ.2 qo;obtain⟨E,F⟩:=x.o qs (by rw[dX h16];simp);have HS:=aA E;have U:((cR L true q).bad != 0)=true:=bne_iff_ne.2 F;clear E F z x y C D t;clear h16;go_wp2_with fail;refine(m.o _ i.o.pw).mono ?_;rintro e I ⟨rfl,a⟩;obtain⟨j,o,k⟩:=aY (i.o.pw.on a) (i.o.aDl.new a) (i.o.row.on (bB (n+1)) a);clear a m;have HP1:=j;have HK1:=o;have HG1:=k;clear j o k r;obtain⟨w1,P⟩:=xE I;subst P;exact QBg
   .have i16:((l.length:Int)==16)=false:=bN.2 qo;have hqb:q.bad=0:=(C.o rfl).1;obtain⟨f',G,H⟩:=y.o hqb qs (by rw[dF h16];rfl);have HF:=aA G;have V:=t.o qs;have B:=rQ T n hq;have hru3:=B.aDY hru2;have hq2:=B.lt;have HS:=aA H;have HCX:=aA (J.o d Q.o q g);have hlf:cR L false q=q:=by unfold cR;rw[iN qe]
    clear G H z x y C D t h16 B J;generalize cP L n q=r2 at *;go_wp2_with fail;refine(m.o _ i.o.pw).mono ?_;rintro e I ⟨rfl,a⟩;obtain⟨j,o,k⟩:=aY (i.o.pw.on a) (i.o.aDl.new a) (i.o.row.on (bB (n+1)) a);clear a m;have HP1:=j;have HK1:=o;have HG1:=k;clear j o k r;obtain⟨w1,P⟩:=xE I;subst P;exact QAh
theorem Eb(l:lU)(h:(bX l).1.aDe=6):(bX l).1.str.size=1:=by
 unfold bX at h ⊢
 repeat' split at h
 all_goals first
  |(exfalso;simp at h;done)
  |(simp[*,cH];done)
theorem xY:∀(f:Nat) (l:lU) (k:Nat) (out:List Tok),(∀t∈out,t.aDe=6->t.str.size=1)->(jH f l k out).2.1=0->AQ (jH f l k out).1
 |0,l,k,out,_,h=>absurd h (by simp[jH])
 |f+1,[],k,out,ha,_=>by
  simp only[jH];intro t a b
  rcases List.mem_append.1 a with a|a
  .exact ha t a b
  .rw[List.mem_singleton] at a;subst a;exact absurd b qs
 |f+1,c::r,k,out,ha,h=>by
  unfold jH at h ⊢;dsimp only at h ⊢;by_cases h1:c.toNat=32\/c.toNat=10
  .rw[iP h1] at h ⊢;exact xY f r (k+1) out ha h
  .rw[iN h1] at h ⊢;by_cases h2:(bX (c::r)).2=0
   .rw[iP h2] at h;exact absurd h qs
   .rw[iN h2] at h ⊢;refine xY f _ _ _ (fun t a b=> ?_) h
    rcases List.mem_append.1 a with a|a
    .exact ha t a b
    .rw[List.mem_singleton] at a;subst a;exact Eb (c::r) b
theorem Jp{l:lU}(h:(jL l).2.1=0):AQ (jL l).1:=by
 unfold jL at h ⊢;by_cases h1:4096<l.length
 .rw[iP h1] at h;exact absurd h qs
 .rw[iN h1] at h ⊢;exact xY _ _ _ _ qs h
theorem QCx{p:Prop}(h:p:=by
 exact((((((((HP.o.set qo).set qo).set qo).set qo).set qo).set qo).set qo).set qo)):p:=h
theorem QCo{p:Prop}(h:p:=by
 exact cZ.end (((((((((HK.o.set qo).set qo).set qo).set qo).set qo).set qo).set qo).set qo))):p:=h
theorem QAR{p:Prop}(h:p:=by
 exact aH.more aP (aH.set aP (aH.set aP (aH.set aP (aH.set aP (aH.set aP (aH.set aP (aH.set aP (aH.set aP (HSo.o) qh) qh) qh) qh) qh) qh) qh) qh) (fun b hb=>by have:=hb.1;show w.heap.size<=b;omega)):p:=h
theorem QAQ{p:Prop}(h:p:=by
 exact aH.more aS (aH.set aS (aH.set aS (aH.set aS (aH.set aS (aH.set aS (aH.set aS (aH.set aS (aH.set aS (HSt.o) qh) qh) qh) qh) qh) qh) qh) qh) (fun b hb=>by have:=hb.1;show w.heap.size<=b;omega)):p:=h
def vF(L:List Tok):Nat->PS->List Po×PS
 |0,p=>gN L (fun q=>(mB,q)) true L.length [] p
 |n+1,p=>gN L (cP L n) false L.length [] p
theorem Ec(L:List Tok)(n:Nat)(p:PS)(h:(aZ L [str "policy",str "set"] p).1=2):cP L n p=
 (.mk (bT L (aZ L [str "policy",str "set"] p).2).1 true (aZ L dH (bT L (aZ L [str "policy",str "set"] p).2).2).1 (bU L (aZ L dH (bT L (aZ L [str "policy",str "set"] p).2).2).2).1 [] (vF L n (eH L qY (bU L (aZ L dH (bT L (aZ L [str "policy",str "set"] p).2).2).2).2)).1 (gM L (eH L yF (vF L n (eH L qY (bU L (aZ L dH (bT L (aZ L [str "policy",str "set"] p).2).2).2).2)).2)).1,
  (gM L (eH L yF (vF L n (eH L qY (bU L (aZ L dH (bT L (aZ L [str "policy",str "set"] p).2).2).2).2)).2)).2):=by
 cases n with
 |zero=>
  unfold cP vF;dsimp only;rw[dX h,iP rfl]
 |succ n=>
  unfold cP vF;dsimp only;rw[dX h,iP rfl]
theorem VC(L:List Tok)(n:Nat)(p:PS)(h:(aZ L [str "policy",str "set"] p).1≠2):cP L n p=
 (.mk (bT L (aZ L [str "policy",str "set"] p).2).1 false (aZ L dH (bT L (aZ L [str "policy",str "set"] p).2).2).1 (bU L (aZ L dH (bT L (aZ L [str "policy",str "set"] p).2).2).2).1 (iI L L.length [] (eH L qY (bU L (aZ L dH (bT L (aZ L [str "policy",str "set"] p).2).2).2).2)).1 [] (gM L (eH L yF (iI L L.length [] (eH L qY (bU L (aZ L dH (bT L (aZ L [str "policy",str "set"] p).2).2).2).2)).2)).1,
  (gM L (eH L yF (iI L L.length [] (eH L qY (bU L (aZ L dH (bT L (aZ L [str "policy",str "set"] p).2).2).2).2)).2)).2):=by
 cases n with
 |zero=>
  unfold cP;dsimp only;rw[dF h,iN qe]
 |succ n=>
  unfold cP;dsimp only;rw[dF h,iN qe]
theorem Jq{L:List Tok}(T:Toks L)(n:Nat){p:PS}(h:p.at_<L.length):dK L p (vF L n p).2:=by
 cases n with
 |zero=>exact qR (one:=fun q=>(mB,q)) (fun h=>dK.refl h) true L.length [] h
 |succ n=>exact qR (one:=cP L n) (rQ T n) false L.length [] h
def Qa(L:List Tok)(n:Nat):Prop:=∀(d:Int),d=5 - (n:Int)->∀p g w,p.at_<L.length->p.aDg<=64->PW L w g p->
 Calls prog 157 #[.pointer (some ⟨g,0,none⟩),.int .i64 d] w (iJ (pZ n) L g w (vF L n p).1 (vF L n p).2)
abbrev alW:Array Value:=#[.string ⟨#[100,101,110,121,111,118,101,114]⟩,.string ⟨#[112,101,114,109,105,116,111,118,101,114]⟩,.string ⟨#[102,105,114,115,116]⟩,.string ⟨#[111,110,108,121]⟩,.string ⟨#[100,101,110,121,117,110,108,101,115,115]⟩,.string ⟨#[112,101,114,109,105,116,117,110,108,101,115,115]⟩]
theorem GH{L:List Tok}{n:Nat}(hn:n<=3)(T:Toks L)(S:Qa L n){p:PS}(d:Int)(hd:d=4 - (n:Int))(hp:p.at_<L.length)(af:p.aDg<=64)(g:Nat)(w:World)(h:PW L w g p)(Q:(aZ L [str "policy",str "set"] p).1=2):
 Calls prog 90 #[.pointer (some ⟨g,0,none⟩),.int .i64 d] w (wN n L g w (cP L n p).1 (cP L n p).2):=by
 have hL:=T.len;have aq:=h.lt;have HP:=aA h;have m1:=dR T [str "policy",str "set"] hp;have m2:=jC T m1.lt;have m3:=dR T dH m2.lt;have m4:=lQ T m3.lt;have m5:=fZ T qY m4.lt;have m15:=m1.trans (m2.trans (m3.trans (m4.trans m5)));have U:=m15.aDY af;have m6:=Jq T n m5.lt;have m7:=fZ T yF m6.lt;have I:=aA (fun a c w h hw=>mZ T [str "policy",str "set"] a c 2 rfl qe hp g w h hw);have R:=aA (fun w h=>rC T m1.lt g w h);have J:=aA (fun a c w h hw=>mZ T dH a c 6 rfl qe m2.lt g w h hw);have P:=aA (fun w h=>tQ T m3.lt g w h);have O:=aA (fun w h=>mF T qY m4.lt g w h);have K:=aA (fun w h=>S (d+1) qo (eH L qY (bU L (aZ L dH (bT L (aZ L [str "policy",str "set"] p).2).2).2).2) g w m5.lt U h);have N:=aA (fun w h=>mF T yF m6.lt g w h);have M:=aA (fun w h=>vD T m7.lt g w h);have ab:=aA (rG T m1.lt);have aa:=aA (nK (L:=L) dH (bT L (aZ L [str "policy",str "set"] p).2).2);have d1:1<=d:=qo;have d2:d<=4:=qo;rw[Ec L n p Q];unfold wN;unfold iJ at P M K;clear h m1 m2 m3 m4 m5 m6 m7 m15 U S hd;generalize aZ L [str "policy",str "set"] p=V at *;generalize bT L V.2=W at *;generalize aZ L dH W.2=H at *;generalize bU L H.2=X at *;generalize eH L qY X.2=p5 at *;generalize vF L n p5=Y at *;generalize eH L yF Y.2=p7 at *;generalize gM L p7=r8 at *;rw[vW,JR] at I;rw[show dH=[⟨#[100,101,110,121,111,118,101,114]⟩,⟨#[112,101,114,109,105,116,111,118,101,114]⟩,⟨#[102,105,114,115,116]⟩,⟨#[111,110,108,121]⟩,⟨#[100,101,110,121,117,110,108,101,115,115]⟩,⟨#[112,101,114,109,105,116,117,110,108,101,115,115]⟩] from by kernel_rfl] at J
 rw[SW] at O;rw[SX] at N;have ao:(V.1==2)=true:=bQ.2 Q;clear Q;dsimp only;go_enter func90,ntmps90;have HK:=aA (cZ.refl w.heap.size g w);go_wp2_with fail;refine(I.o _ _ _ (HP.o.alloc.alloc.alloc) (nA _ _ _ _ _ qs rfl)).mono ?_;rintro e w1 ⟨rfl,k,f⟩;obtain⟨j,i,l,HK,HP⟩:=gC (aF (aE (aE (aK _ _ _ qs) (aB _ _)) (aB _ _)) f qo:w1.heap[w.heap.size]? =some (.cells wH 35 (0,0))) (aF (aE (aK _ _ _ qs) (aB _ _)) f qo:w1.heap[w.heap.size+1]? =some (.cells wH 35 (0,0))) (aF (aK _ _ _ qs) f qo:w1.heap[w.heap.size+2]? =some (.cells #[.string ⟨#[112,111,108,105,99,121]⟩,.string ⟨#[115,101,116]⟩] 9 (0,0))) (HK.o.alloc.alloc.alloc.aDu f) k;clear k f;have bf:=aD j.o;have bp:=aD i.o;have ar:=aD l.o;have bz:=HP.o.lt;clear I;obtain⟨⟨o,q,r,s,t,v,x⟩,y,z,A,B,C,D,E⟩:=bJ i.o;go_wp2_with fail;refine(R.o _ ((HP.o.set qo))).mono ?_;rintro e w2 ⟨rfl,k,f⟩;obtain⟨j,i,l,HK,HP⟩:=gC (aF (bE (j.o) qo) f qo) (aF (Si (i.o) _) f qo) (aF (bE (l.o) qo) f qo) ((HK.o.set qo).aDu f) k;clear k f o q r s t v x y z A B C D E;have bg:=aD j.o;have bq:=aD i.o;have au:=aD l.o;have b0:=HP.o.lt;clear R;obtain⟨⟨o,q,r,s,t,v,x⟩,y,z,A,B,C,D,E⟩:=bJ i.o;go_wp2_with fail;refine(J.o _ _ _ ((HP.o.set qo).alloc) (nA _ _ _ _ _ qs rfl)).mono ?_;rintro e w3 ⟨rfl,k,f⟩;obtain⟨j,i,l,m,HK,HP⟩:=hD6 (aF (aE (bE (j.o) qo) (aB _ _)) f qo) (aF (aE (Sh (i.o) _) (aB _ _)) f qo) (aF (aE (bE (l.o) qo) (aB _ _)) f qo) (aF (aK _ _ _ qs) f qo:w3.heap[w2.heap.size]? =some (.cells alW 9 (0,0))) ((HK.o.set qo).alloc.aDu f) k;clear k f o q r s t v x y z A B C D E
 have bh:=aD j.o;have br:=aD i.o;have av:=aD l.o;have a6:=aD m.o;have b1:=HP.o.lt;clear J;obtain⟨⟨o,q,r,s,t,v,x⟩,y,z,A,B,C,D,E⟩:=bJ i.o;go_wp2_with fail;refine(P.o _ ((HP.o.set qo))).mono ?_;rintro e w4 ⟨Z,rfl,F,k,f⟩;obtain⟨ta,tc,rfl,tl⟩:=F.slice;obtain⟨j,i,l,m,HK,HP⟩:=hD6 (aF (bE (j.o) qo) f qo) (aF (Sj (i.o) _) f qo) (aF (bE (l.o) qo) f qo) (aF (bE (m.o) qo) f qo) ((HK.o.set qo).aDu f) k;clear k f o q r s t v x y z A B C D E;have bj:=aD j.o;have bs:=aD i.o;have aw:=aD l.o;have a7:=aD m.o;have b2:=HP.o.lt;have HSt:=aA (aH.more aS (aH.inb aS F) (ok':=fun b=>w.heap.size<b/\b≠w.heap.size+1) (fun b hb=>by have h1:=hb.1;(try simp only[World.setCell,Array.size_modify] at h1);have h3:w3.heap.size<=b:=h1;exact⟨by show w.heap.size<b;omega,by show b≠w.heap.size+1;omega⟩));clear F;clear P;obtain⟨⟨o,q,r,s,t,v,x⟩,y,z,A,B,C,D,E⟩:=bJ i.o;go_wp2_with fail;refine(O.o _ ((HP.o.set qo))).mono ?_;rintro e w5 ⟨rfl,k,f⟩;obtain⟨j,i,l,m,HK,HP⟩:=hD6 (aF (bE (j.o) qo) f qo) (aF (JU (i.o) _) f qo) (aF (bE (l.o) qo) f qo) (aF (bE (m.o) qo) f qo) ((HK.o.set qo).aDu f) k;have HSt:=aA (aH.aDu aS (aH.set aS (HSt.o) qh) f qh);clear k f o q r s t v x y z A B C D E;have bk:=aD j.o;have bt:=aD i.o;have ax:=aD l.o;have a8:=aD m.o;have b3:=HP.o.lt;clear O;obtain⟨⟨o,q,r,s,t,v,x⟩,y,z,A,B,C,D,E⟩:=bJ i.o;go_wp2_with fail;refine(K.o _ (HP.o)).mono ?_;rintro e w6 ⟨Z,rfl,F,k,f⟩;obtain⟨ba,bc,rfl,bl⟩:=F.slice;obtain⟨j,i,l,m,HK,HP⟩:=hD6 (aF (j.o) f qo) (aF (i.o) f qo) (aF (l.o) f qo) (aF (m.o) f qo) (HK.o.aDu f) k
 have HSt:=aA (aH.aDu aS (HSt.o) f qh);clear k f o q r s t v x y z A B C D E;have bm:=aD j.o;have bu:=aD i.o;have ay:=aD l.o;have bb:=aD m.o;have b4:=HP.o.lt;have G:=aA (aH.more (bB n) (aH.inb (bB n) F) (ok':=fun b=>w.heap.size<b/\b≠w.heap.size+1) (fun b hb=>by have h1:=hb.1;(try simp only[World.setCell,Array.size_modify] at h1);have h3:w5.heap.size<=b:=h1;exact⟨by show w.heap.size<b;omega,by show b≠w.heap.size+1;omega⟩));clear F;clear K;obtain⟨⟨o,q,r,s,t,v,x⟩,y,z,A,B,C,D,E⟩:=bJ i.o;go_wp2_with fail;refine(N.o _ ((HP.o.set qo))).mono ?_;rintro e w7 ⟨rfl,k,f⟩;obtain⟨j,i,l,m,HK,HP⟩:=hD6 (aF (bE (j.o) qo) f qo) (aF (aAs (i.o) _) f qo) (aF (bE (l.o) qo) f qo) (aF (bE (m.o) qo) f qo) ((HK.o.set qo).aDu f) k;have HSt:=aA (aH.aDu aS (aH.set aS (HSt.o) qh) f qh);have G:=aA (aH.aDu (bB n) (aH.set (bB n) (G.o) qh) f qh);clear k f o q r s t v x y z A B C D E;have bn:=aD j.o;have bw:=aD i.o;have az:=aD l.o;have bd:=aD m.o;have b5:=HP.o.lt;clear N;go_wp2_with fail;refine(M.o _ (HP.o)).mono ?_;rintro e w8 ⟨Z,rfl,F,k,f⟩;obtain⟨oa,oc,rfl,ol⟩:=F.slice;obtain⟨j,i,l,m,HK,HP⟩:=hD6 (aF (j.o) f qo) (aF (i.o) f qo) (aF (l.o) f qo) (aF (m.o) f qo) (HK.o.aDu f) k;have HSt:=aA (aH.aDu aS (HSt.o) f qh);have G:=aA (aH.aDu (bB n) (G.o) f qh)
 clear k f;have bo:=aD j.o;have bx:=aD i.o;have a1:=aD l.o;have be:=aD m.o;have b6:=HP.o.lt;have HSo:=aA (aH.more aP (aH.inb aP F) (ok':=fun b=>w.heap.size<b/\b≠w.heap.size+1) (fun b hb=>by have h1:=hb.1;(try simp only[World.setCell,Array.size_modify] at h1);have h3:w7.heap.size<=b:=h1;exact⟨by show w.heap.size<b;omega,by show b≠w.heap.size+1;omega⟩));clear F;clear M;obtain⟨⟨o,q,r,s,t,v,x⟩,y,z,A,B,C,D,E⟩:=bJ i.o;obtain⟨⟨R0,R1,R2,R3,R4,R5,R6⟩,ag,ah,ai,aj,ak,al,an⟩:=bJ j.o;go_wp2;refine bR (.agg #[.string W.1,.bool true,.int .i64 H.1,.slice ta X.1.length tc,.slice none 0 0,.slice ba Y.1.length bc,.slice oa r8.1.length oc]) ?_;have ae:=aa.o;have ad:dH.length=6:=rfl;rw[ad] at ae;refine⟨_,_,_,_,rfl,⟨lT ab.o (by unfold cQ;omega),by unfold bK;show _<=H.1/\H.1<=_;omega,?_,?_,?_,?_⟩,?_,?_⟩
 .exact QAQ
 .exact aH.nil
 .exact aH.more (bB n) (aH.set (bB n) (aH.set (bB n) (aH.set (bB n) (aH.set (bB n) (aH.set (bB n) (aH.set (bB n) (aH.set (bB n) (aH.set (bB n) (G.o) qh) qh) qh) qh) qh) qh) qh) qh) (fun b hb=>by have:=hb.1;show w.heap.size<=b;omega)
 .exact QAR
 .exact QCx
 .exact QCo
theorem BQ{L:List Tok}{n:Nat}(hn:n<=3)(T:Toks L){p:PS}(d:Int)(hd:d=4 - (n:Int))(hp:p.at_<L.length)(af:p.aDg<=64)(g:Nat)(w:World)(h:PW L w g p)(Q:(aZ L [str "policy",str "set"] p).1≠2):
 Calls prog 90 #[.pointer (some ⟨g,0,none⟩),.int .i64 d] w (wN n L g w (cP L n p).1 (cP L n p).2):=by
 have hL:=T.len;have aq:=h.lt;have HP:=aA h;have m1:=dR T [str "policy",str "set"] hp;have m2:=jC T m1.lt;have m3:=dR T dH m2.lt;have m4:=lQ T m3.lt;have m5:=fZ T qY m4.lt;have m15:=m1.trans (m2.trans (m3.trans (m4.trans m5)));have S:=m15.aDY af;have m6:=sS T L.length [] m5.lt;have m7:=fZ T yF m6.lt;have I:=aA (fun a c w h hw=>mZ T [str "policy",str "set"] a c 2 rfl qe hp g w h hw);have R:=aA (fun w h=>rC T m1.lt g w h);have J:=aA (fun a c w h hw=>mZ T dH a c 6 rfl qe m2.lt g w h hw);have P:=aA (fun w h=>tQ T m3.lt g w h);have O:=aA (fun w h=>mF T qY m4.lt g w h);have K:=aA (fun w h=>Pz T m5.lt S g w h);have N:=aA (fun w h=>mF T yF m6.lt g w h);have M:=aA (fun w h=>vD T m7.lt g w h);have ab:=aA (rG T m1.lt);have aa:=aA (nK (L:=L) dH (bT L (aZ L [str "policy",str "set"] p).2).2);have d1:1<=d:=qo;have d2:d<=4:=qo;rw[VC L n p Q];unfold wN;unfold iJ at P M K;clear h m1 m2 m3 m4 m5 m6 m7 m15 S hd;generalize aZ L [str "policy",str "set"] p=U at *;generalize bT L U.2=V at *;generalize aZ L dH V.2=H at *;generalize bU L H.2=W at *;generalize eH L qY W.2=p5 at *;generalize iI L L.length [] p5=X at *;generalize eH L yF X.2=p7 at *;generalize gM L p7=r8 at *;rw[vW,JR] at I;rw[show dH=[⟨#[100,101,110,121,111,118,101,114]⟩,⟨#[112,101,114,109,105,116,111,118,101,114]⟩,⟨#[102,105,114,115,116]⟩,⟨#[111,110,108,121]⟩,⟨#[100,101,110,121,117,110,108,101,115,115]⟩,⟨#[112,101,114,109,105,116,117,110,108,101,115,115]⟩] from by kernel_rfl] at J;rw[SW] at O;rw[SX] at N;have ao:(U.1==2)=false:=bN.2 Q;clear Q
 dsimp only;go_enter func90,ntmps90;have HK:=aA (cZ.refl w.heap.size g w);go_wp2_with fail;refine(I.o _ _ _ (HP.o.alloc.alloc.alloc) (nA _ _ _ _ _ qs rfl)).mono ?_;rintro e w1 ⟨rfl,k,f⟩;obtain⟨j,i,l,HK,HP⟩:=gC (aF (aE (aE (aK _ _ _ qs) (aB _ _)) (aB _ _)) f qo:w1.heap[w.heap.size]? =some (.cells wH 35 (0,0))) (aF (aE (aK _ _ _ qs) (aB _ _)) f qo:w1.heap[w.heap.size+1]? =some (.cells wH 35 (0,0))) (aF (aK _ _ _ qs) f qo:w1.heap[w.heap.size+2]? =some (.cells #[.string ⟨#[112,111,108,105,99,121]⟩,.string ⟨#[115,101,116]⟩] 9 (0,0))) (HK.o.alloc.alloc.alloc.aDu f) k;clear k f;have bf:=aD j.o;have bp:=aD i.o;have ar:=aD l.o;have bz:=HP.o.lt;clear I;obtain⟨⟨o,q,r,s,t,v,x⟩,y,z,A,B,C,D,E⟩:=bJ i.o;go_wp2_with fail;refine(R.o _ ((HP.o.set qo))).mono ?_;rintro e w2 ⟨rfl,k,f⟩;obtain⟨j,i,l,HK,HP⟩:=gC (aF (bE (j.o) qo) f qo) (aF (Si (i.o) _) f qo) (aF (bE (l.o) qo) f qo) ((HK.o.set qo).aDu f) k;clear k f o q r s t v x y z A B C D E;have bg:=aD j.o;have bq:=aD i.o;have au:=aD l.o;have b0:=HP.o.lt;clear R;obtain⟨⟨o,q,r,s,t,v,x⟩,y,z,A,B,C,D,E⟩:=bJ i.o;go_wp2_with fail;refine(J.o _ _ _ ((HP.o.set qo).alloc) (nA _ _ _ _ _ qs rfl)).mono ?_;rintro e Z ⟨rfl,k,f⟩;obtain⟨j,i,l,m,HK,HP⟩:=hD6 (aF (aE (bE (j.o) qo) (aB _ _)) f qo) (aF (aE (Sh (i.o) _) (aB _ _)) f qo) (aF (aE (bE (l.o) qo) (aB _ _)) f qo) (aF (aK _ _ _ qs) f qo:Z.heap[w2.heap.size]? =some (.cells alW 9 (0,0))) ((HK.o.set qo).alloc.aDu f) k;clear k f o q r s t v x y z A B C D E;have bh:=aD j.o;have br:=aD i.o;have av:=aD l.o;have a6:=aD m.o
 have b1:=HP.o.lt;clear J;obtain⟨⟨o,q,r,s,t,v,x⟩,y,z,A,B,C,D,E⟩:=bJ i.o;go_wp2_with fail;refine(P.o _ ((HP.o.set qo))).mono ?_;rintro e w4 ⟨Y,rfl,F,k,f⟩;obtain⟨ta,tc,rfl,tl⟩:=F.slice;obtain⟨j,i,l,m,HK,HP⟩:=hD6 (aF (bE (j.o) qo) f qo) (aF (Sj (i.o) _) f qo) (aF (bE (l.o) qo) f qo) (aF (bE (m.o) qo) f qo) ((HK.o.set qo).aDu f) k;clear k f o q r s t v x y z A B C D E;have bj:=aD j.o;have bs:=aD i.o;have aw:=aD l.o;have a7:=aD m.o;have b2:=HP.o.lt;have HSt:=aA (aH.more aS (aH.inb aS F) (ok':=fun b=>w.heap.size<b/\b≠w.heap.size+1) (fun b hb=>by have h1:=hb.1;(try simp only[World.setCell,Array.size_modify] at h1);have h3:Z.heap.size<=b:=h1;exact⟨by show w.heap.size<b;omega,by show b≠w.heap.size+1;omega⟩));clear F;clear P;obtain⟨⟨o,q,r,s,t,v,x⟩,y,z,A,B,C,D,E⟩:=bJ i.o;go_wp2_with fail;refine(O.o _ ((HP.o.set qo))).mono ?_;rintro e w5 ⟨rfl,k,f⟩;obtain⟨j,i,l,m,HK,HP⟩:=hD6 (aF (bE (j.o) qo) f qo) (aF (JU (i.o) _) f qo) (aF (bE (l.o) qo) f qo) (aF (bE (m.o) qo) f qo) ((HK.o.set qo).aDu f) k;have HSt:=aA (aH.aDu aS (aH.set aS (HSt.o) qh) f qh);clear k f o q r s t v x y z A B C D E;have bk:=aD j.o;have bt:=aD i.o;have ax:=aD l.o;have a8:=aD m.o;have b3:=HP.o.lt;clear O;obtain⟨⟨o,q,r,s,t,v,x⟩,y,z,A,B,C,D,E⟩:=bJ i.o;go_wp2_with fail;refine(K.o _ (HP.o)).mono ?_;rintro e w6 ⟨Y,rfl,F,k,f⟩;obtain⟨ba,bc,rfl,bl⟩:=F.slice;obtain⟨j,i,l,m,HK,HP⟩:=hD6 (aF (j.o) f qo) (aF (i.o) f qo) (aF (l.o) f qo) (aF (m.o) f qo) (HK.o.aDu f) k
 have HSt:=aA (aH.aDu aS (HSt.o) f qh);clear k f o q r s t v x y z A B C D E;have bm:=aD j.o;have bu:=aD i.o;have ay:=aD l.o;have bb:=aD m.o;have b4:=HP.o.lt;have G:=aA (aH.more bL (aH.inb bL F) (ok':=fun b=>w.heap.size<b/\b≠w.heap.size+1) (fun b hb=>by have h1:=hb.1;(try simp only[World.setCell,Array.size_modify] at h1);have h3:w5.heap.size<=b:=h1;exact⟨by show w.heap.size<b;omega,by show b≠w.heap.size+1;omega⟩));clear F;clear K;obtain⟨⟨o,q,r,s,t,v,x⟩,y,z,A,B,C,D,E⟩:=bJ i.o;go_wp2_with fail;refine(N.o _ ((HP.o.set qo))).mono ?_;rintro e w7 ⟨rfl,k,f⟩;obtain⟨j,i,l,m,HK,HP⟩:=hD6 (aF (bE (j.o) qo) f qo) (aF (aAr (i.o) _) f qo) (aF (bE (l.o) qo) f qo) (aF (bE (m.o) qo) f qo) ((HK.o.set qo).aDu f) k;have HSt:=aA (aH.aDu aS (aH.set aS (HSt.o) qh) f qh);have G:=aA (aH.aDu bL (aH.set bL (G.o) qh) f qh);clear k f o q r s t v x y z A B C D E;have bn:=aD j.o;have bw:=aD i.o;have az:=aD l.o;have bd:=aD m.o;have b5:=HP.o.lt;clear N;go_wp2_with fail;refine(M.o _ (HP.o)).mono ?_;rintro e w8 ⟨Y,rfl,F,k,f⟩;obtain⟨oa,oc,rfl,ol⟩:=F.slice;obtain⟨j,i,l,m,HK,HP⟩:=hD6 (aF (j.o) f qo) (aF (i.o) f qo) (aF (l.o) f qo) (aF (m.o) f qo) (HK.o.aDu f) k;have HSt:=aA (aH.aDu aS (HSt.o) f qh);have G:=aA (aH.aDu bL (G.o) f qh);clear k f
 have bo:=aD j.o;have bx:=aD i.o;have a1:=aD l.o;have be:=aD m.o;have b6:=HP.o.lt;have HSo:=aA (aH.more aP (aH.inb aP F) (ok':=fun b=>w.heap.size<b/\b≠w.heap.size+1) (fun b hb=>by have h1:=hb.1;(try simp only[World.setCell,Array.size_modify] at h1);have h3:w7.heap.size<=b:=h1;exact⟨by show w.heap.size<b;omega,by show b≠w.heap.size+1;omega⟩));clear F;clear M;obtain⟨⟨o,q,r,s,t,v,x⟩,y,z,A,B,C,D,E⟩:=bJ i.o;obtain⟨⟨R0,R1,R2,R3,R4,R5,R6⟩,ag,ah,ai,aj,ak,al,an⟩:=bJ j.o;go_wp2;refine bR (.agg #[.string V.1,.bool false,.int .i64 H.1,.slice ta W.1.length tc,.slice ba X.1.length bc,.slice none 0 0,.slice oa r8.1.length oc]) ?_;have ae:=aa.o;have ad:dH.length=6:=rfl;rw[ad] at ae;refine⟨_,_,_,_,rfl,⟨lT ab.o (by unfold cQ;omega),by unfold bK;show _<=H.1/\H.1<=_;omega,?_,?_,?_,?_⟩,?_,?_⟩
 .exact QAQ
 .exact aH.more bL (aH.set bL (aH.set bL (aH.set bL (aH.set bL (aH.set bL (aH.set bL (aH.set bL (aH.set bL (G.o) qh) qh) qh) qh) qh) qh) qh) qh) (fun b hb=>by have:=hb.1;show w.heap.size<=b;omega)
 .exact aH.nil
 .exact QAR
 .exact QCx
 .exact QCo
theorem KT{L:List Tok}(T:Toks L)(M:AQ L):∀n,n<=3->Yy L n
 |0,hn=>fun d a p g w hp b h=>by
  have e:Qa L 0:=fun d a p g w hp b h=>Jn T M d (by simpa using a) hp b g w h
  by_cases c:(aZ L [str "policy",str "set"] p).1=2
  .exact GH (n:=0) qo T e d a hp b g w h c
  .exact BQ (n:=0) qo T d a hp b g w h c
 |n+1,hn=>fun d a p g w hp b h=>by
  have e:Qa L (n+1):=fun d a p g w hp b h=>Jo T M (n:=n) qo (KT T M n qo) d (by rw[a];omega) hp b g w h
  by_cases c:(aZ L [str "policy",str "set"] p).1=2
  .exact GH hn T e d a hp b g w h c
  .exact BQ hn T d a hp b g w h c
end Go.Proofs.YtbpimcljljlbnaaGreatDoor
