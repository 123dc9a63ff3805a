/- Lemmas. -/
import Derived.Test.YtbinmcabjnoliaaGreatDoorMaz
namespace Go.Proofs.YtbinmcabjnoliaaGreatDoor
open Go.RowKit
set_option linter.unusedVariables false
set_option linter.unusedSimpArgs false
set_option maxHeartbeats 16000000
open _root_.Go.Proofs.Tryz
set_option maxRecDepth 20000
theorem QCr{p:Prop}(h:p:=by
 rw[iP h1] at h;dsimp only at h;rw[h2,show cR L false q=q from by unfold cR;rw[iN qe],iN (fun hh=>hh hq)] at h;exact h):p:=h
theorem Yh{p:Prop}(h:p:=by
 exact⟨[],p,none,0,rfl,aA ⟨HR0.o,hp,qo,qs,hru,aM.nil,HP.o,HK.o⟩⟩):p:=h
theorem So{p:Prop}(h:p:=by
 obtain⟨A_,c_,c0,c1,c2,c3,c4,hs_⟩:=HP1.o.cells;have hg1:=HP1.o.lt;clear hs_ c0 c1 c3 c4;go_wp2_with fail;refine(HLM.o true q hq _ HP1.o).mono ?_;rintro e w2 ⟨rfl,h_,k_⟩;have HP2:=aA h_;have HK2:=aA (HK1.o.aC8 k_);have HG2:=aA (HG1.o.aC8 bM k_ hgl);clear h_ k_ c2;obtain⟨A_,c_,c0,c1,c2,c3,c4,hs_⟩:=HP2.o.cells;have hg2:=HP2.o.lt;clear hs_ c0 c1 c2 c4;go_wp2;go_ret;refine⟨_,rfl,?_,?_,HK2.o.end⟩
 .rw[HS.o];exact HG2.o.sl qo _ (fun b hb _=>hb) (fun b hb _=>hb) bM
 .rw[HS.o];exact HP2.o):p:=h
theorem QAe{p:Prop}(h:p:=by
 obtain⟨A_,c_,c0,c1,c2,c3,c4,hs_⟩:=HP1.o.cells;have hg1:=HP1.o.lt;clear hs_ c0 c1 c3 c4;have HLF:=aA (HLM.o false q hq w1 HP1.o);rw[hlf] at HLF;clear HLM hlf;go_wp2_with fail;refine HLF.o.mono ?_;rintro e w2 ⟨rfl,h_,k_⟩;have HP2:=aA h_;have HK2:=aA (HK1.o.aC8 k_);have HG2:=aA (HG1.o.aC8 bM k_ hgl);clear h_ k_ c2 HLF HP1 HK1 HG1;obtain⟨A_,c_,c0,c1,c2,c3,c4,hs_⟩:=HP2.o.cells;have pf2:=HP2.o.free 2;have hg2:=HP2.o.lt;rw[hqb] at c3;clear hs_ c0 c1 c4;go_wp2_with fail;refine(HI3.o _ (HP2.o.aD6 (by go_num))).mono ?_;rintro e w3 ⟨rfl,hb_⟩;have HP3:=aA ((HP2.o.aD6 (v:= .int .i64 ((q.aCT:Int)+1)) (by go_num)).on hb_);have HK3:=aA (HK2.o.step.new hb_);have HG3:=aA ((HG2.o.stepG bM hgl).on bM hb_);clear hb_ HI3 HP2 HK2 HG2 c2 c3 pf2;obtain⟨A_,c_,c0,c1,c2,c3,c4,hs_⟩:=HP3.o.cells;have pf1:=HP3.o.free 1;have hg3:=HP3.o.lt;clear hs_ c0 c2 c3 c4;unfold yU at HRX;go_wp2_with fail;refine(HRX.o _ (HP3.o.step (by go_num))).mono ?_;rintro e w4 ⟨vt,vc,vo,rfl,hs_,h_,k_⟩;obtain⟨ta,tc,rfl,_⟩:=hs_.2.1.slice;obtain⟨ca,cc,rfl,_⟩:=hs_.2.2.1.slice;obtain⟨oa,oc,rfl,_⟩:=hs_.2.2.2.slice;have HP4:=aA h_;have HK4:=aA (HK3.o.step.aC8 k_);have HG4:=aA ((HG3.o.stepG bM hgl).aC8 bM k_ hgl);have HSX:=aA hs_;have hz3:w.heap.size<=w3.heap.size:=HK3.o.size;have HGO:=aA (fun b e=>(HG3.o.lt b e).2);clear hs_ h_ k_ HRX HP3 HK3 HG3 c1 pf1;have hz4:w.heap.size<=w4.heap.size:=HK4.o.size;have HX:=aA (aB w4 (.cells #[.string r2.1.id,.bool r2.1.aDs,.slice ta r2.1.aC1.length tc,.slice ca r2.1.cond.length cc,.slice oa r2.1.aC7.length oc] 269))
 have HXN:=aA (aK w4 (.cells #[.string r2.1.id,.bool r2.1.aDs,.slice ta r2.1.aC1.length tc,.slice ca r2.1.cond.length cc,.slice oa r2.1.aC7.length oc] 269) _ rfl);have HGX:=aA (HG4.o.on bM HX.o);have HPX:=aA (HP4.o.on HX.o);have HKX:=aA (HK4.o.new HX.o);have HSY:=aA (rN.more (rN.aC0 (rN.inb HSX.o) (aJ HX.o)) (ok':=fun b=>w.heap.size<=b/\b<(w4.alloc (.cells #[.string r2.1.id,.bool r2.1.aDs,.slice ta r2.1.aC1.length tc,.slice ca r2.1.cond.length cc,.slice oa r2.1.aC7.length oc] 269)).heap.size/\some b≠(Value.slice A l.length c).ownBlock) (fun b hb'=>by
  have h1:=hb'.1;have h2:=hb'.2;simp only[World.setCell,Array.size_modify] at h1;have h3:w3.heap.size<=b:=h1;refine⟨qo,by rw[World.size_alloc];omega,fun e=> ?_⟩;have:=HGO.o b e.symm;omega))
 go_wp2_with (at_builtin;refine cC aAe bM rfl (.tmp 44) (.tmp 48) rfl _ l rfl HGX.o w4.heap.size 1 _ _ _ r2.1 rfl HXN.o ⟨_,_,_,rfl,HSY.o⟩ qo qo (by rw[World.size_alloc];omega) ?_;intro l' hl' A' c' w9 hG hgr hat';have HG5:=aA hG;have HP5:=aA (HPX.o.grown HGX.o hgr hgl);have HK5:=aA (HKX.o.grown HGX.o hgr (lR _));clear hG hgr hat' HX HXN HGX HPX HKX HSX HSY HG4 HP4 HK4)
 rw[<-hl'.o] at HS;have HL2:Hid (l'.length=l.length+1):=aA (by rw[hl'.o,aL,List.length_singleton]);go_roundg f'
 case measure=>rw[HF.o];omega
 case rel=>exact⟨l',_,A',c',rfl,aA ⟨HS.o,hq2,qA HF.o,qA HL2.o,hru3,HG5.o,HP5.o,HK5.o⟩⟩):p:=h
structure Ad {α:Type} (R:Rep α) (s:Nat) (e:TypeId) (L:List Tok) (g:Nat) (w:World) (f:Nat) (v:Value) (wr:World) (l:List α) (q:PS) (res:Prop):Prop where
 res:res
 at_:q.at_<L.length
 fuel:L.length<=f+q.at_
 len:l.length<=q.at_+1
 aCT:q.aCT<=64
 row:aM R s e wr w.heap.size (fun b=>w.heap.size<=b) v l
 pw:PW L wr g q
 aC0:cX w.heap.size g w wr
def aAd(L:List Tok)(g:Nat)(w:World)(res:List Ru×PS)(f:Nat)(v:Value)(wr:World):Prop:=
 ∃(l:List Ru) (q:PS) (A:oD) (c:Nat),v=.slice A l.length c/\Hid (Ad yH 5 269 L g w f v wr l q (iJ L f l q=res))
theorem Iw{L:List Tok}{f:Nat}{l:List Ru}{q:PS}{res:List Ru×PS}(h:iJ L f l q=res)(h1:cL L (str "permit") q=false)(h2:cL L (str "deny") q=false):res=(l,q):=by
 cases f with
 |zero=>exact h.symm
 |succ f=>unfold iJ at h;rw[iN (by rw[h1,h2];decide)] at h;exact h.symm
theorem Ix{L:List Tok}{f:Nat}{l:List Ru}{q:PS}{res:List Ru×PS}(h:iJ L f l q=res)(c:0<f)(h1:(cL L (str "permit") q||cL L (str "deny") q)=true)(h2:(decide (l.length=16)||decide (q.aCT=64))=true):res=(l,cR L true q)/\(cR L true q).bad≠0:=by
 have b:(cR L true q).bad≠0:=by unfold cR;rw[iP rfl];exact lP 6 _ qe q
 obtain⟨a,rfl⟩:∃a,f=a+1:=⟨f - 1,qo⟩;unfold iJ at h;rw[iP h1] at h;dsimp only at h;rw[h2,iP b] at h;exact⟨h.symm,b⟩
theorem Iy{L:List Tok}{f:Nat}{l:List Ru}{q:PS}{res:List Ru×PS}(h:iJ L f l q=res)(b:0<f)(hq:q.bad=0)(h1:(cL L (str "permit") q||cL L (str "deny") q)=true)(h2:(decide (l.length=16)||decide (q.aCT=64))=false):
 ∃a,f=a+1/\iJ L a (l++[(kK L (cL L (str "deny") q) {q with aCT:=q.aCT+1,at_:=q.at_+1}).1]) (kK L (cL L (str "deny") q) {q with aCT:=q.aCT+1,at_:=q.at_+1}).2=res:=by
 obtain⟨a,rfl⟩:∃a,f=a+1:=⟨f - 1,qo⟩;refine⟨a,rfl,?_⟩;unfold iJ at h;exact QCr
theorem PW.aD6{L:List Tok}{w:World}{g:Nat}{p:PS}{v:Value}(h:PW L w g p)(a:v=.int .i64 ((p.aCT+1:Nat):Int)):PW L (w.setCell ⟨g,2,none⟩ v) g {p with aCT:=p.aCT+1}:=by
 subst a;refine h.stay (aI _) fun A c h=> ?_
 rw[aG h 2 _];rfl
theorem aAe:dV prog 34 269 5 96:=fQ (z:= .agg #[.string ByteArray.empty,.bool false,.slice none 0 0,.slice none 0 0,.slice none 0 0]) underlying34 (by kernel_rfl) rfl qe
theorem aM.stepG{α:Type}{R:Rep α}{s:Nat}{e:TypeId}{w wr:World}{v u:Value}{l:List α}{g i:Nat}(F:Firm R s)(h:aM R s e wr w.heap.size (fun b=>w.heap.size<=b) v l)(a:g<w.heap.size):aM R s e (wr.setCell ⟨g,i,none⟩ u) w.heap.size (fun b=>w.heap.size<=b) v l:=h.aC8 F (aI u) a
theorem rN.aC8{w w':World}{ok:nP}{r:Ru}{vt vc vo:Value}{g:Nat}(h:rN w ok r vt vc vo)(k:aN (fun b=>b≠g) w w')(a:¬ok g):rN w' ok r vt vc vo:=h.aC0 (k.mono fun k _ c e=>a (e▸c))
theorem Pf{L:List Tok}{p:PS}(T:Toks L)(hp:p.at_<L.length)(hru:p.aCT<=64)(g:Nat)(w:World)(h:PW L w g p):
 Calls prog 140 #[.pointer (some ⟨g,0,none⟩)] w (iK yH L g w (iJ L L.length [] p).1 (iJ L L.length [] p).2):=by
 have P:=T.len;have hgl:=h.lt;have HP:=aA h;have M:=aA (fun (s:bY) (q:PS) (hq:q.at_<L.length) w h=>oQ s hq P g w h);have HLM:=aA (fun b (q:PS) (hq:q.at_<L.length) w h=>kQ b hq P g w h);have K:=aA (fun d (q:PS) (hq:q.at_<L.length) w h=>Pe T d hq g w h);obtain⟨res,U⟩:=xE (iJ L L.length [] p);have HR0:Hid (iJ L L.length [] p=res):=aA U.symm;rw[<-U];unfold iK;clear h U;have HK:=aA (cX.refl w.heap.size g w);go_enter func140,ntmps140;go_wp2;go_loopg [3] L.length (fun f v wr=>aAd L g w res f v wr)
 case atStart=>exact Yh
 case round=>
  clear HR0 HP HK;obtain⟨l,q,A,c,rfl,a⟩:=hrel;have hq:=a.o.at_;have ab:=a.o.aCT;have aa:=a.o.fuel;have hle:=a.o.len;have Y:0<gk:=qo;have hlen:l.length<=5000:=qo;have m:=aA (M.o (str "permit") q hq);have o:=aA (M.o (str "deny") q hq);rw[IP] at m;rw[SS] at o;clear M;have t:=aA (fun h1 h2=>Iw a.o.res h1 h2);have n:=aA (fun h1 h2=>Ix a.o.res Y h1 h2);have r:=aA (fun hb h1 h2=>Iy a.o.res Y hb h1 h2);rw[IP,SS] at t n r;have z:=aA (fun h=>(lG (L:=L) (s:=⟨#[112,101,114,109,105,116]⟩) (p:=q) h));have B:=aA (fun h=>(lG (L:=L) (s:=⟨#[100,101,110,121]⟩) (p:=q) h));have V:Hid (cL L ⟨#[100,101,110,121]⟩ {q with aCT:=q.aCT+1}=cL L ⟨#[100,101,110,121]⟩ q):=aA rfl;have HI3:=aA (fun w h=>oQ (p:={q with aCT:=q.aCT+1}) ⟨#[100,101,110,121]⟩ hq P g w h);rw[V.o] at HI3;obtain⟨Z,S⟩:=xE (cL L ⟨#[112,101,114,109,105,116]⟩ q);obtain⟨J,R⟩:=xE (cL L ⟨#[100,101,110,121]⟩ q);have W:Hid (Z=true->cL L ⟨#[112,101,114,109,105,116]⟩ q=true):=aA (fun h=>S▸h);have X:Hid (J=true->cL L ⟨#[100,101,110,121]⟩ q=true):=aA (fun h=>R▸h);rw[<-S] at m t n r;rw[<-R] at o HI3 t n r;have z:=aA (fun h=>z.o (W.o h));have B:=aA (fun h=>B.o (X.o h));clear S R V;have j1:(0:Int)<=q.aCT:=qo;have j2:(q.aCT:Int)<=64:=qo;have j3:(0:Int)<=q.at_:=qo;have j4:(q.at_:Int)<=5000:=qo
  cases Z
  .cases J
   .have HS:=aA (t.o rfl rfl);clear t n r z B;go_wp2_with fail;refine(m.o _ a.o.pw).mono ?_;rintro e w1 ⟨rfl,hb_⟩;obtain⟨HP1,HK1,HG1⟩:=aY (a.o.pw.on hb_) (a.o.aC0.new hb_) (a.o.row.on bM hb_);clear hb_ m;go_wp2_with fail;refine(o.o _ HP1.o).mono ?_;rintro e w2 ⟨rfl,hb_⟩;obtain⟨HP2,HK2,HG2⟩:=aY (HP1.o.on hb_) (HK1.o.new hb_) (HG1.o.on bM hb_);clear hb_ o;go_wp2;go_ret;refine⟨_,rfl,?_,?_,HK2.o.end⟩
    .rw[HS.o];exact HG2.o.sl qo _ (fun b hb _=>hb) (fun b hb _=>hb) bM
    .rw[HS.o];exact HP2.o
   .have N:=X.o rfl;by_cases h16:l.length=16
    .have i16:((l.length:Int)==16)=true:=bQ.2 qo;obtain⟨x,y⟩:=n.o qs (by rw[dX h16];simp);have HS:=aA x;have O:((cR L true q).bad != 0)=true:=bne_iff_ne.2 y;clear x y t n r z B;clear h16;go_wp2_with fail;refine(m.o _ a.o.pw).mono ?_;rintro e D ⟨rfl,hb_⟩;obtain⟨i,k,j⟩:=aY (a.o.pw.on hb_) (a.o.aC0.new hb_) (a.o.row.on bM hb_);clear hb_ m;go_wp2_with fail;refine(o.o _ i.o).mono ?_;rintro e w1 ⟨rfl,hb_⟩;obtain⟨HP1,HK1,HG1⟩:=aY (i.o.on hb_) (k.o.new hb_) (j.o.on bM hb_);clear hb_ o i k j;exact So
    .by_cases h64:q.aCT=64
     .have i16:((l.length:Int)==16)=false:=bN.2 qo;have i64:((q.aCT:Int)==64)=true:=bQ.2 qo;obtain⟨x,y⟩:=n.o qs (by rw[dX h64];simp);have HS:=aA x;have O:((cR L true q).bad != 0)=true:=bne_iff_ne.2 y;clear x y t n r z B;clear h16 h64;go_wp2_with fail;refine(m.o _ a.o.pw).mono ?_;rintro e D ⟨rfl,hb_⟩;obtain⟨i,k,j⟩:=aY (a.o.pw.on hb_) (a.o.aC0.new hb_) (a.o.row.on bM hb_);clear hb_ m;go_wp2_with fail;refine(o.o _ i.o).mono ?_;rintro e w1 ⟨rfl,hb_⟩;obtain⟨HP1,HK1,HG1⟩:=aY (i.o.on hb_) (k.o.new hb_) (j.o.on bM hb_);clear hb_ o i k j;exact So
     .have hqb:q.bad=0:=(B.o rfl).1;obtain⟨f',F,H⟩:=r.o hqb qs (by rw[dF h16,dF h64];rfl);have i16:((l.length:Int)==16)=false:=bN.2 qo;have i64:((q.aCT:Int)==64)=false:=bN.2 qo;have HF:=aA F;have G:dK L q {q with at_:=q.at_+1}:=fP T (s:=(⟨#[100,101,110,121]⟩:bY)) hq N;have E:({q with aCT:=q.aCT+1,at_:=q.at_+1}:PS).at_<L.length:=G.lt;have C:=IM T true E;have hru3:=C.aDC (by show q.aCT+1<=64;omega);have Q:=C.le;have hq2:=C.lt;have HS:=aA H;have HRX:=aA (K.o true _ E);have hlf:cR L false q=q:=by unfold cR;rw[iN qe]
      simp only at Q E;clear F H t n r z B h16 h64 G C K;generalize kK L true {q with aCT:=q.aCT+1,at_:=q.at_+1}=r2 at *;go_wp2_with fail;refine(m.o _ a.o.pw).mono ?_;rintro e D ⟨rfl,hb_⟩;obtain⟨i,k,j⟩:=aY (a.o.pw.on hb_) (a.o.aC0.new hb_) (a.o.row.on bM hb_);clear hb_ m;go_wp2_with fail;refine(o.o _ i.o).mono ?_;rintro e w1 ⟨rfl,hb_⟩;obtain⟨HP1,HK1,HG1⟩:=aY (i.o.on hb_) (k.o.new hb_) (j.o.on bM hb_);clear hb_ o i k j;exact QAe
  .have N:=W.o rfl;by_cases h16:l.length=16
   .have i16:((l.length:Int)==16)=true:=bQ.2 qo;obtain⟨x,y⟩:=n.o qs (by rw[dX h16];simp);have HS:=aA x;have O:((cR L true q).bad != 0)=true:=bne_iff_ne.2 y;clear x y t n r z B;clear h16;go_wp2_with fail;refine(m.o _ a.o.pw).mono ?_;rintro e D ⟨rfl,hb_⟩;obtain⟨i,k,j⟩:=aY (a.o.pw.on hb_) (a.o.aC0.new hb_) (a.o.row.on bM hb_);clear hb_ m;have HP1:=i;have HK1:=k;have HG1:=j;clear i k j o;obtain⟨w1,I⟩:=xE D;subst I;exact So
   .by_cases h64:q.aCT=64
    .have i16:((l.length:Int)==16)=false:=bN.2 qo;have i64:((q.aCT:Int)==64)=true:=bQ.2 qo;obtain⟨x,y⟩:=n.o qs (by rw[dX h64];simp);have HS:=aA x;have O:((cR L true q).bad != 0)=true:=bne_iff_ne.2 y;clear x y t n r z B;clear h16 h64;go_wp2_with fail;refine(m.o _ a.o.pw).mono ?_;rintro e D ⟨rfl,hb_⟩;obtain⟨i,k,j⟩:=aY (a.o.pw.on hb_) (a.o.aC0.new hb_) (a.o.row.on bM hb_);clear hb_ m;have HP1:=i;have HK1:=k;have HG1:=j;clear i k j o;obtain⟨w1,I⟩:=xE D;subst I;exact So
    .have hqb:q.bad=0:=(z.o rfl).1;obtain⟨f',F,H⟩:=r.o hqb qs (by rw[dF h16,dF h64];rfl);have i16:((l.length:Int)==16)=false:=bN.2 qo;have i64:((q.aCT:Int)==64)=false:=bN.2 qo;have HF:=aA F;have G:dK L q {q with at_:=q.at_+1}:=fP T (s:=(⟨#[112,101,114,109,105,116]⟩:bY)) hq N;have E:({q with aCT:=q.aCT+1,at_:=q.at_+1}:PS).at_<L.length:=G.lt;have C:=IM T J E;have hru3:=C.aDC (by show q.aCT+1<=64;omega);have Q:=C.le;have hq2:=C.lt;have HS:=aA H;have HRX:=aA (K.o J _ E);have hlf:cR L false q=q:=by unfold cR;rw[iN qe]
     simp only at Q E;clear F H t n r z B h16 h64 G C K;generalize kK L J {q with aCT:=q.aCT+1,at_:=q.at_+1}=r2 at *;go_wp2_with fail;refine(m.o _ a.o.pw).mono ?_;rintro e D ⟨rfl,hb_⟩;obtain⟨i,k,j⟩:=aY (a.o.pw.on hb_) (a.o.aC0.new hb_) (a.o.row.on bM hb_);clear hb_ m;have HP1:=i;have HK1:=k;have HG1:=j;clear i k j o;obtain⟨w1,I⟩:=xE D;subst I;exact QAe
theorem QBf{p:Prop}(h:p:=by
 go_wp2_with fail;refine(HLM.o true q hq _ HP1.o).mono ?_;rintro e w2 ⟨rfl,h_,k_⟩;have HP2:=aA h_;have HK2:=aA (HK1.o.aC8 k_);have HG2:=aA (HG1.o.aC8 (bB (n+1)) k_ hgl);clear h_ k_;obtain⟨A_,c_,c0,c1,c2,c3,c4,hs_⟩:=HP2.o.cells;have hg2:=HP2.o.lt;clear hs_ c0 c1 c2 c4;go_wp2;go_ret;refine⟨_,rfl,?_,?_,HK2.o.end⟩
 .rw[HS.o];exact HG2.o.sl qo _ (fun b hb _=>hb) (fun b hb _=>hb) (bB (n+1))
 .rw[HS.o];exact HP2.o):p:=h
theorem Sp{p:Prop}(h:p:=by
 go_wp2_with fail;refine(HLM.o true q hq _ HP1.o).mono ?_;rintro e w2 ⟨rfl,h_,k_⟩;have HP2:=aA h_;have HK2:=aA (HK1.o.aC8 k_);have HG2:=aA (HG1.o.aC8 (bB 0) k_ hgl);clear h_ k_;obtain⟨A_,c_,c0,c1,c2,c3,c4,hs_⟩:=HP2.o.cells;have hg2:=HP2.o.lt;clear hs_ c0 c1 c2 c4;go_wp2;go_ret;refine⟨_,rfl,?_,?_,HK2.o.end⟩
 .rw[HS.o];exact HG2.o.sl qo _ (fun b hb _=>hb) (fun b hb _=>hb) (bB 0)
 .rw[HS.o];exact HP2.o):p:=h
theorem QAh{p:Prop}(h:p:=by
 have HLF:=aA (HLM.o false q hq w1 HP1.o);rw[hlf] at HLF;clear HLM hlf;go_wp2_with fail;refine HLF.o.mono ?_;rintro e w3 ⟨rfl,h_,k_⟩;have HP3:=aA h_;have HK3:=aA (HK1.o.aC8 k_);have HG3:=aA (HG1.o.aC8 (bB (n+1)) k_ hgl);clear h_ k_ HLF HP1 HK1 HG1;obtain⟨A_,c_,c0,c1,c2,c3,c4,hs_⟩:=HP3.o.cells;have hg3:=HP3.o.lt;rw[hqb] at c3;clear hs_ c0 c1 c2 c4;unfold wJ at HCX;go_wp2_with fail;refine(HCX.o _ hq hru2 HP3.o).mono ?_;rintro e w4 ⟨vt,vr,vk,vo,rfl,hs_,h_,k_⟩;obtain⟨ta,tc,rfl,_⟩:=hs_.2.2.1.slice;obtain⟨ra,rc,rfl,_⟩:=hs_.2.2.2.1.slice;obtain⟨ka,kc,rfl,_⟩:=hs_.2.2.2.2.1.slice;obtain⟨oa,oc,rfl,_⟩:=hs_.2.2.2.2.2.slice;have HP4:=aA h_;have HK4:=aA (HK3.o.aC8 k_);have HG4:=aA (HG3.o.aC8 (bB (n+1)) k_ hgl);have HSX:=aA hs_;have hz3:w.heap.size<=w3.heap.size:=HK3.o.size;have HGO:=aA (fun b e=>(HG3.o.lt b e).2);clear hs_ h_ k_ HCX HP3 HK3 HG3 c3;have hz4:w.heap.size<=w4.heap.size:=HK4.o.size;have HX:=aA (aB w4 (.cells (kG r2.1 ta tc ra rc ka kc oa oc) 38));have HXN:=aA (aK w4 (.cells (kG r2.1 ta tc ra rc ka kc oa oc) 38) _ rfl);have HGX:=aA (HG4.o.on (bB (n+1)) HX.o);have HPX:=aA (HP4.o.on HX.o);have HKX:=aA (HK4.o.new HX.o);have HSY:=aA (fN.to_ (fN.more (fN.aC0 (fN.inb HSX.o) (aJ HX.o)) (ok':=fun b=>w.heap.size<=b/\b<(w4.alloc (.cells (kG r2.1 ta tc ra rc ka kc oa oc) 38)).heap.size/\some b≠(Value.slice A l.length c).ownBlock) (fun b hb'=>by
  have h1:=hb'.1;have h2:=hb'.2;have h3:w3.heap.size<=b:=h1;refine⟨qo,by rw[World.size_alloc];omega,fun e=> ?_⟩;have:=HGO.o b e.symm;omega)))
 go_wp2_with (at_builtin;refine cC aCy (bB (n+1)) rfl (.tmp 26) (.tmp 30) rfl _ l rfl HGX.o w4.heap.size 1 _ _ _ r2.1 rfl HXN.o HSY.o qo qo (by rw[World.size_alloc];omega) ?_;intro l' hl' A' c' w9 hG hgr hat';have HG5:=aA hG;have HP5:=aA (HPX.o.grown HGX.o hgr hgl);have HK5:=aA (HKX.o.grown HGX.o hgr (lR _));clear hG hgr hat' HX HXN HGX HPX HKX HSX HSY HG4 HP4 HK4)
 rw[<-hl'.o] at HS;have HL2:Hid (l'.length=l.length+1):=aA (by rw[hl'.o,aL,List.length_singleton]);go_roundg f'
 case measure=>rw[HF.o];omega
 case rel=>exact⟨l',_,A',c',rfl,aA ⟨HS.o,hq2,qA HF.o,qA HL2.o,hru3,HG5.o,HP5.o,HK5.o⟩⟩):p:=h
def AN(L:List Tok):Prop:=∀t∈L,t.aCR=6->t.str.size=1
theorem PA{L:List Tok}(T:Toks L)(M:AN L)(n:Nat){q:PS}(d:q.at_<L.length)(a:(cL L (str "policy") q||cL L (str "set") q)=true):q.at_<(cO L n q).2.at_:=by
 have hw:(aZ L [str "policy",str "set"] q).2.at_=q.at_+1:=by
  have key:∀(s:bY),s.size≠1->(s=str "policy"\/s=str "set")->cL L s q=true->(aZ L [str "policy",str "set"] q).2.at_=q.at_+1:=by
   intro s b f a;have c:=lG a;have e:(aU L q).aCR=1:=by
    rcases c.2.2 with h|h
    .exact h
    .exfalso;have:=M (aU L q) (by rw[EI d];exact List.getElem_mem _) h;rw[c.2.1] at this;exact b this
   unfold aZ;dsimp only;rw[iP];refine⟨e,?_,by rw[c.2.1];exact a⟩;rw[c.2.1]
   rcases f with rfl|rfl
   .rw[List.findIdx_cons];simp
   .rw[List.findIdx_cons];by_cases h:str "policy"=str "set"
    .simp[h]
    .rw[dF h];simp[List.findIdx_cons]
  rw[Bool.or_eq_true] at a
  rcases a with a|a
  .exact key _ (by rw[vT];decide) (.inl rfl) a
  .exact key _ (by rw[JS];decide) (.inr rfl) a
 have h1:=dQ T [str "policy",str "set"] d;have hm:dK L (aZ L [str "policy",str "set"] q).2 (cO L n q).2:=by
  have h2:=jD T h1.lt;have h3:=dQ T dH h2.lt;have h4:=lQ T h3.lt;have h5:=fZ T qX h4.lt;have h15:=h2.trans (h3.trans (h4.trans h5))
  cases n with
  |zero=>
   unfold cO;dsimp only;by_cases b:decide ((aZ L [str "policy",str "set"] q).1=2)=true
   .rw[iP b];have h6:=qP (one:=fun q=>(mA,q)) (fun h=>dK.refl h) true L.length [] h5.lt;exact OA
   .rw[iN b];have h6:=sS T L.length [] h5.lt;exact OA
  |succ n=>
   unfold cO;dsimp only;by_cases b:decide ((aZ L [str "policy",str "set"] q).1=2)=true
   .rw[iP b];have h6:=qP (one:=cO L n) (rP T n) false L.length [] h5.lt;exact OA
   .rw[iN b];have h6:=sS T L.length [] h5.lt;exact OA
 have:=hm.le;omega
def wJ(n:Nat)(L:List Tok)(g:Nat)(w:World)(p:Po)(p':PS)(e:Ending)(w':World):Prop:=
 ∃vt vr vk vo,e=.returned (.agg #[.string p.id,.bool p.set,.int .i64 p.alg,vt,vr,vk,vo])/\fN n w' (fun b=>w.heap.size<=b) p vt vr vk vo/\PW L w' g p'/\aN (fun b=>b≠g) w w'
def Yi(L:List Tok)(n:Nat):Prop:=∀(d:Int),d=4 - (n:Int)->∀p g w,p.at_<L.length->p.aCT<=64->PW L w g p->
 Calls prog 81 #[.pointer (some ⟨g,0,none⟩),.int .i64 d] w (wJ n L g w (cO L n p).1 (cO L n p).2)
def Sq(n:Nat)(L:List Tok)(one:PS->Po×PS)(deep:Bool)(g:Nat)(w:World)(res:List Po×PS)(f:Nat)(v:Value)(wr:World):Prop:=
 ∃(l:List Po) (q:PS) (A:oD) (c:Nat),v=.slice A l.length c/\Hid (Ad (pY n) 7 38 L g w f v wr l q (gM L one deep f l q=res))
section
variable {L:List Tok} {one:PS->Po×PS} {deep:Bool} {f:Nat} {l:List Po} {q:PS} {res:List Po×PS}
theorem PC(h:gM L one deep f l q=res)(h1:cL L (str "policy") q=false)(h2:cL L (str "set") q=false):res=(l,q):=by
 cases f with
 |zero=>exact h.symm
 |succ f=>unfold gM at h;rw[iN (by rw[h1,h2];decide)] at h;exact h.symm
theorem PD(h:gM L one deep f l q=res)(c:0<f)(h1:(cL L (str "policy") q||cL L (str "set") q)=true)(h2:(decide (l.length=16)||deep)=true):res=(l,cR L true q)/\(cR L true q).bad≠0:=by
 have b:(cR L true q).bad≠0:=by unfold cR;rw[iP rfl];exact lP 6 _ qe q
 obtain⟨a,rfl⟩:∃a,f=a+1:=⟨f - 1,qo⟩;unfold gM at h;rw[iP h1] at h;dsimp only at h;rw[h2,iP b] at h;exact⟨h.symm,b⟩
theorem PE(h:gM L one deep f l q=res)(b:0<f)(hq:q.bad=0)(h1:(cL L (str "policy") q||cL L (str "set") q)=true)(h2:(decide (l.length=16)||deep)=false):
 ∃a,f=a+1/\gM L one deep a (l++[(one q).1]) (one q).2=res:=by
 obtain⟨a,rfl⟩:∃a,f=a+1:=⟨f - 1,qo⟩;refine⟨a,rfl,?_⟩;unfold gM at h;exact QCr
end
theorem aCy:dV prog 35 38 7 128:=fQ (z:= .agg #[.string ByteArray.empty,.bool false,.int .i64 0,.slice none 0 0,.slice none 0 0,.slice none 0 0,.slice none 0 0]) underlying35 (by kernel_rfl) rfl qe
theorem fN.to_{n:Nat}{w:World}{ok:nP}{p:Po}{vt vr vk vo:Value}(h:fN n w ok p vt vr vk vo):pY (n+1) w ok [.string p.id,.bool p.set,.int .i64 p.alg,vt,vr,vk,vo] p:=⟨vt,vr,vk,vo,rfl,h.1,h.2.1,h.2.2.1,h.2.2.2.1,h.2.2.2.2.1,h.2.2.2.2.2⟩
theorem Iz{L:List Tok}{p:PS}(T:Toks L)(M:AN L)(d:Int)(H:d=5)(hp:p.at_<L.length)(hru:p.aCT<=64)(g:Nat)(w:World)(h:PW L w g p):
 Calls prog 139 #[.pointer (some ⟨g,0,none⟩),.int .i64 d] w (iK (pY 0) L g w (gM L (fun q=>(mA,q)) true L.length [] p).1 (gM L (fun q=>(mA,q)) true L.length [] p).2):=by
 have K:=T.len;have hgl:=h.lt;have HP:=aA h;have F:=aA (fun (s:bY) (q:PS) (hq:q.at_<L.length) w h=>oQ s hq K g w h);have HLM:=aA (fun b (q:PS) (hq:q.at_<L.length) w h=>kQ b hq K g w h);have R:decide (d > 4)=true:=by rw[H];simp
 have Q:=aA H;obtain⟨res,I⟩:=xE (gM L (fun q=>(mA,q)) true L.length [] p);have HR0:Hid (gM L (fun q=>(mA,q)) true L.length [] p=res):=aA I.symm;rw[<-I];unfold iK;clear h I H;have HK:=aA (cX.refl w.heap.size g w);go_enter func139,ntmps139;go_wp2;go_loopg [5] L.length (fun f v wr=>Sq 0 L (fun q=>(mA,q)) true g w res f v wr)
 case atStart=>exact Yh
 case round=>
  clear HR0 HP HK;obtain⟨l,q,A,c,rfl,i⟩:=hrel;have hq:=i.o.at_;have U:=i.o.aCT;have S:=i.o.fuel;have hle:=i.o.len;have N:0<gk:=qo;have hlen:l.length<=5000:=qo;have m:=aA (F.o (str "policy") q hq);have x:=aA (F.o (str "set") q hq);clear F;have y:=aA (fun h1 h2=>PC i.o.res h1 h2);have o:=aA (fun h1 h2=>PD i.o.res N h1 h2);have B:=aA (fun hb h1 h2=>PE i.o.res N hb h1 h2);have z:=aA (fun h=>PA T M 0 hq h);rw[vT] at m y o B z;rw[JS] at x y o B z;have C:=aA (fun h=>(lG (L:=L) (s:=⟨#[112,111,108,105,99,121]⟩) (p:=q) h));have D:=aA (fun h=>(lG (L:=L) (s:=⟨#[115,101,116]⟩) (p:=q) h));generalize cL L ⟨#[112,111,108,105,99,121]⟩ q=P at *;generalize cL L ⟨#[115,101,116]⟩ q=O at *
  cases P
  .cases O
   .have HS:=aA (y.o rfl rfl);clear y o B C D z;go_wp2_with fail;refine(m.o _ i.o.pw).mono ?_;rintro e w1 ⟨rfl,a⟩;obtain⟨HP1,HK1,HG1⟩:=aY (i.o.pw.on a) (i.o.aC0.new a) (i.o.row.on (bB 0) a);clear a m;go_wp2_with fail;refine(x.o _ HP1.o).mono ?_;rintro e w2 ⟨rfl,a⟩;obtain⟨HP2,HK2,HG2⟩:=aY (HP1.o.on a) (HK1.o.new a) (HG1.o.on (bB 0) a);clear a x;go_wp2;go_ret;refine⟨_,rfl,?_,?_,HK2.o.end⟩
    .rw[HS.o];exact HG2.o.sl qo _ (fun b hb _=>hb) (fun b hb _=>hb) (bB 0)
    .rw[HS.o];exact HP2.o
   .by_cases h16:l.length=16
    .have i16:((l.length:Int)==16)=true:=bQ.2 qo;obtain⟨r,t⟩:=o.o qs (by rw[dX h16];simp);have HS:=aA r;have G:((cR L true q).bad != 0)=true:=bne_iff_ne.2 t;clear r t y o B C D z;clear h16;go_wp2_with fail;refine(m.o _ i.o.pw).mono ?_;rintro e E ⟨rfl,a⟩;obtain⟨j,n,k⟩:=aY (i.o.pw.on a) (i.o.aC0.new a) (i.o.row.on (bB 0) a);clear a m;go_wp2_with fail;refine(x.o _ j.o).mono ?_;rintro e w1 ⟨rfl,a⟩;obtain⟨HP1,HK1,HG1⟩:=aY (j.o.on a) (n.o.new a) (k.o.on (bB 0) a);clear a x j n k;exact Sp
    .have i16:((l.length:Int)==16)=false:=bN.2 qo;obtain⟨r,t⟩:=o.o qs qs;have HS:=aA r;have G:((cR L true q).bad != 0)=true:=bne_iff_ne.2 t;clear r t y o B C D z;clear h16;go_wp2_with fail;refine(m.o _ i.o.pw).mono ?_;rintro e E ⟨rfl,a⟩;obtain⟨j,n,k⟩:=aY (i.o.pw.on a) (i.o.aC0.new a) (i.o.row.on (bB 0) a);clear a m;go_wp2_with fail;refine(x.o _ j.o).mono ?_;rintro e w1 ⟨rfl,a⟩;obtain⟨HP1,HK1,HG1⟩:=aY (j.o.on a) (n.o.new a) (k.o.on (bB 0) a);clear a x j n k;exact Sp
  .by_cases h16:l.length=16
   .have i16:((l.length:Int)==16)=true:=bQ.2 qo;obtain⟨r,t⟩:=o.o qs (by rw[dX h16];simp);have HS:=aA r;have G:((cR L true q).bad != 0)=true:=bne_iff_ne.2 t;clear r t y o B C D z;clear h16;go_wp2_with fail;refine(m.o _ i.o.pw).mono ?_;rintro e E ⟨rfl,a⟩;obtain⟨j,n,k⟩:=aY (i.o.pw.on a) (i.o.aC0.new a) (i.o.row.on (bB 0) a);clear a m;have HP1:=j;have HK1:=n;have HG1:=k;clear j n k x;obtain⟨w1,J⟩:=xE E;subst J;exact Sp
   .have i16:((l.length:Int)==16)=false:=bN.2 qo;obtain⟨r,t⟩:=o.o qs qs;have HS:=aA r;have G:((cR L true q).bad != 0)=true:=bne_iff_ne.2 t;clear r t y o B C D z;clear h16;go_wp2_with fail;refine(m.o _ i.o.pw).mono ?_;rintro e E ⟨rfl,a⟩;obtain⟨j,n,k⟩:=aY (i.o.pw.on a) (i.o.aC0.new a) (i.o.row.on (bB 0) a);clear a m;have HP1:=j;have HK1:=n;have HG1:=k;clear j n k x;obtain⟨w1,J⟩:=xE E;subst J;exact Sp
theorem Ja{L:List Tok}{p:PS}(T:Toks L)(M:AN L){n:Nat}(hn:n<=3)(hC:Yi L n)(d:Int)(N:d=4 - (n:Int))(hp:p.at_<L.length)(hru:p.aCT<=64)(g:Nat)(w:World)(h:PW L w g p):
 Calls prog 139 #[.pointer (some ⟨g,0,none⟩),.int .i64 d] w (iK (pY (n+1)) L g w (gM L (cO L n) false L.length [] p).1 (gM L (cO L n) false L.length [] p).2):=by
 have R:=T.len;have hgl:=h.lt;have HP:=aA h;have K:=aA (fun (s:bY) (q:PS) (hq:q.at_<L.length) w h=>oQ s hq R g w h);have HLM:=aA (fun b (q:PS) (hq:q.at_<L.length) w h=>kQ b hq R g w h);have J:=aA hC;have Y:decide (d > 4)=false:=by rw[N];simp;omega
 have Q:=aA N;obtain⟨res,O⟩:=xE (gM L (cO L n) false L.length [] p);have HR0:Hid (gM L (cO L n) false L.length [] p=res):=aA O.symm;rw[<-O];unfold iK;clear h O N;have HK:=aA (cX.refl w.heap.size g w);go_enter func139,ntmps139;go_wp2;go_loopg [5] L.length (fun f v wr=>Sq (n+1) L (cO L n) false g w res f v wr)
 case atStart=>exact Yh
 case round=>
  clear HR0 HP HK;obtain⟨l,q,A,c,rfl,i⟩:=hrel;have hq:=i.o.at_;have hru2:=i.o.aCT;have Z:=i.o.fuel;have hle:=i.o.len;have S:0<gk:=qo;have hlen:l.length<=5000:=qo;have m:=aA (K.o (str "policy") q hq);have r:=aA (K.o (str "set") q hq);clear K;have z:=aA (fun h1 h2=>PC i.o.res h1 h2);have x:=aA (fun h1 h2=>PD i.o.res S h1 h2);have y:=aA (fun hb h1 h2=>PE i.o.res S hb h1 h2);have t:=aA (fun h=>PA T M n hq h);rw[vT] at m z x y t;rw[JS] at r z x y t;have C:=aA (fun h=>(lG (L:=L) (s:=⟨#[112,111,108,105,99,121]⟩) (p:=q) h));have D:=aA (fun h=>(lG (L:=L) (s:=⟨#[115,101,116]⟩) (p:=q) h));generalize cL L ⟨#[112,111,108,105,99,121]⟩ q=X at *;generalize cL L ⟨#[115,101,116]⟩ q=W at *
  cases X
  .cases W
   .have HS:=aA (z.o rfl rfl);clear z x y C D t;go_wp2_with fail;refine(m.o _ i.o.pw).mono ?_;rintro e w1 ⟨rfl,a⟩;obtain⟨HP1,HK1,HG1⟩:=aY (i.o.pw.on a) (i.o.aC0.new a) (i.o.row.on (bB (n+1)) a);clear a m;go_wp2_with fail;refine(r.o _ HP1.o).mono ?_;rintro e w2 ⟨rfl,a⟩;obtain⟨HP2,HK2,HG2⟩:=aY (HP1.o.on a) (HK1.o.new a) (HG1.o.on (bB (n+1)) a);clear a r;go_wp2;go_ret;refine⟨_,rfl,?_,?_,HK2.o.end⟩
    .rw[HS.o];exact HG2.o.sl qo _ (fun b hb _=>hb) (fun b hb _=>hb) (bB (n+1))
    .rw[HS.o];exact HP2.o
   .by_cases h16:l.length=16
    .have i16:((l.length:Int)==16)=true:=bQ.2 qo;obtain⟨E,F⟩:=x.o qs (by rw[dX h16];simp);have HS:=aA E;have U:((cR L true q).bad != 0)=true:=bne_iff_ne.2 F;clear E F z x y C D t;clear h16;go_wp2_with fail;refine(m.o _ i.o.pw).mono ?_;rintro e I ⟨rfl,a⟩;obtain⟨j,o,k⟩:=aY (i.o.pw.on a) (i.o.aC0.new a) (i.o.row.on (bB (n+1)) a);clear a m;go_wp2_with fail;refine(r.o _ j.o).mono ?_;rintro e w1 ⟨rfl,a⟩;obtain⟨HP1,HK1,HG1⟩:=aY (j.o.on a) (o.o.new a) (k.o.on (bB (n+1)) a);clear a r j o k;exact QBf
    .have i16:((l.length:Int)==16)=false:=bN.2 qo;have hqb:q.bad=0:=(D.o rfl).1;obtain⟨f',G,H⟩:=y.o hqb qs (by rw[dF h16];rfl);have HF:=aA G;have V:=t.o qs;have B:=rP T n hq;have hru3:=B.aDC hru2;have hq2:=B.lt;have HS:=aA H;have HCX:=aA (J.o d Q.o q g);have hlf:cR L false q=q:=by unfold cR;rw[iN qe]
     clear G H z x y C D t h16 B J;generalize cO L n q=r2 at *;go_wp2_with fail;refine(m.o _ i.o.pw).mono ?_;rintro e I ⟨rfl,a⟩;obtain⟨j,o,k⟩:=aY (i.o.pw.on a) (i.o.aC0.new a) (i.o.row.on (bB (n+1)) a);clear a m;go_wp2_with fail;refine(r.o _ j.o).mono ?_;rintro e w1 ⟨rfl,a⟩;obtain⟨HP1,HK1,HG1⟩:=aY (j.o.on a) (o.o.new a) (k.o.on (bB (n+1)) a);clear a r j o k;exact QAh
  .by_cases h16:l.length=16
   .have i16:((l.length:Int)==16)=true:=bQ.2 qo;obtain⟨E,F⟩:=x.o qs (by rw[dX h16];simp);have HS:=aA E;have U:((cR L true q).bad != 0)=true:=bne_iff_ne.2 F;clear E F z x y C D t;clear h16;go_wp2_with fail;refine(m.o _ i.o.pw).mono ?_;rintro e I ⟨rfl,a⟩;obtain⟨j,o,k⟩:=aY (i.o.pw.on a) (i.o.aC0.new a) (i.o.row.on (bB (n+1)) a);clear a m;have HP1:=j;have HK1:=o;have HG1:=k;clear j o k r;obtain⟨w1,P⟩:=xE I;subst P;exact QBf
   .have i16:((l.length:Int)==16)=false:=bN.2 qo;have hqb:q.bad=0:=(C.o rfl).1;obtain⟨f',G,H⟩:=y.o hqb qs (by rw[dF h16];rfl);have HF:=aA G;have V:=t.o qs;have B:=rP T n hq;have hru3:=B.aDC hru2;have hq2:=B.lt;have HS:=aA H;have HCX:=aA (J.o d Q.o q g);have hlf:cR L false q=q:=by unfold cR;rw[iN qe]
    clear G H z x y C D t h16 B J;generalize cO L n q=r2 at *;go_wp2_with fail;refine(m.o _ i.o.pw).mono ?_;rintro e I ⟨rfl,a⟩;obtain⟨j,o,k⟩:=aY (i.o.pw.on a) (i.o.aC0.new a) (i.o.row.on (bB (n+1)) a);clear a m;have HP1:=j;have HK1:=o;have HG1:=k;clear j o k r;obtain⟨w1,P⟩:=xE I;subst P;exact QAh
theorem Dp(l:lU)(h:(bX l).1.aCR=6):(bX l).1.str.size=1:=by
 unfold bX at h ⊢
 repeat' split at h
 all_goals first
  |(exfalso;simp at h;done)
  |(simp[*,cH];done)
theorem xX:∀(f:Nat) (l:lU) (k:Nat) (out:List Tok),(∀t∈out,t.aCR=6->t.str.size=1)->(jH f l k out).2.1=0->AN (jH f l k out).1
 |0,l,k,out,_,h=>absurd h (by simp[jH])
 |f+1,[],k,out,ha,_=>by
  simp only[jH];intro t a b
  rcases List.mem_append.1 a with a|a
  .exact ha t a b
  .rw[List.mem_singleton] at a;subst a;exact absurd b qs
 |f+1,c::r,k,out,ha,h=>by
  unfold jH at h ⊢;dsimp only at h ⊢;by_cases h1:c.toNat=32\/c.toNat=10
  .rw[iP h1] at h ⊢;exact xX f r (k+1) out ha h
  .rw[iN h1] at h ⊢;by_cases h2:(bX (c::r)).2=0
   .rw[iP h2] at h;exact absurd h qs
   .rw[iN h2] at h ⊢;refine xX f _ _ _ (fun t a b=> ?_) h
    rcases List.mem_append.1 a with a|a
    .exact ha t a b
    .rw[List.mem_singleton] at a;subst a;exact Dp (c::r) b
theorem Jb{l:lU}(h:(jL l).2.1=0):AN (jL l).1:=by
 unfold jL at h ⊢;by_cases h1:4096<l.length
 .rw[iP h1] at h;exact absurd h qs
 .rw[iN h1] at h ⊢;exact xX _ _ _ _ qs h
end Go.Proofs.YtbinmcabjnoliaaGreatDoor
