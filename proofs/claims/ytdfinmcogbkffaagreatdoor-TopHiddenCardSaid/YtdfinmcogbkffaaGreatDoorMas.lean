/- Lemmas. -/
import Derived.Test.YtdfinmcogbkffaaGreatDoorMaq
import Derived.IntWalk
namespace Go.Proofs.YtdfinmcogbkffaaGreatDoor
open Go.RowKit
set_option linter.unusedVariables false
set_option linter.unusedSimpArgs false
set_option maxHeartbeats 16000000
open _root_.Go.Proofs.Tryz
set_option maxRecDepth 20000
theorem iD.more{K:nP}{base B:Nat}{a b c:World}{s:Sto}(h:iD K base B a b s)(d:Below b.heap.size b c):iD K base B a c s:=by
 obtain⟨L,ro,vc,vr,vn,vo,vt,vu,vk,vb,h1,h2,h3⟩:=h;exact⟨L,ro,vc,vr,vn,vo,vt,vu,vk,vb,aE h1 d,h2.on d,h3.trans (aJ d)⟩
theorem bC.aEK{K:nP}{base:Nat}{w:World}{s:Sto}{L:List Mix}{ro:Option Value}{vc vr vn vo vt vu vk vb:Value}(h:bC K base w s L ro vc vr vn vo vt vu vk vb)(h1:s.aDz.length<=1000000):aH qC w (fun b=>K b\/base<=b) vc s.aDz:=by
 exact QCs
theorem bC.logAt{K:nP}{base:Nat}{w:World}{s:Sto}{L:List Mix}{ro:Option Value}{c:oD}{n d:Nat}{vr vn vo vt vu vk vb:Value}(h:bC K base w s L ro (.slice c n d) vr vn vo vt vu vk vb){k:Nat}(a:k<L.length):
 ∃g la lc,c=some ⟨g,0,none⟩/\L[k].2.2=some (.slice la L[k].1.log.length lc)/\w.cell? ⟨g,k * 5+4,none⟩=some (.slice la L[k].1.log.length lc)/\base<=g/\g<w.heap.size/\aM mU 3 166 w base (fun _=>False) (.slice la L[k].1.log.length lc) L[k].1.log/\some g≠(Value.slice la L[k].1.log.length lc).ownBlock/\(∀i,w.frozen? ⟨g,i,none⟩=false)/\¬K g:=by
 obtain⟨g,r,e,h1,h2,hm,f,j⟩:=h.aDz.at (dP base K) a qe;obtain⟨y,z,rfl,m,o,p,q,p5⟩:=hm;obtain⟨v,b⟩:=Option.isSome_iff_exists.1 (h.aD0 k a);have l:=(kI h.aDz a).2 v b;rw[b] at p5;obtain⟨rfl,q1,t,x⟩:=p5;obtain⟨la,lc,rfl⟩:=q1.slice;subst e;exact⟨g,la,lc,rfl,b,f 4 _ rfl,h1,h2,q1,fun e=>l.2.1 g e.symm rfl,j,fun a=>(h.kept g a).2.1 rfl⟩
theorem gL{w1 d c:World}{b:Nat}{O:Obj}{o:Option Nat}(h:w1.heap[b]? =some O)(a:Below w1.heap.size w1 d)(e:d.grownBy c o)(f:some b≠o):c.heap[b]? =some O:=(e.block b (aD (aE h a)) f).trans (aE h a)
theorem Dt{K:nP}{base B:Nat}{w d c:World}{s:Sto}{L:List Mix}{ro:Option Value}{g n l:Nat}{vr vn vo vt vu vk vb:Value}{k:Nat}(a:bC K base d s L ro (.slice (some ⟨g,0,none⟩) n l) vr vn vo vt vu vk vb)(i:k<L.length)(x:B<base)(t:Below w.heap.size w d){v v':Value}(j:L[k].2.2=some v){l':List uC}(q:l'.length<=1000000)(m:d.grownBy c v.ownBlock)(o:aM mU 3 166 c base (fun _=>False) v' l')(p:v'.ownBlock=v.ownBlock\/v'.ownBlock=some d.heap.size):
 Hid (bC K base (c.setCell ⟨g,k * 5+4,none⟩ v') {s with aDz:=s.aDz.set k {L[k].1 with log:=l'}} (L.set k ({L[k].1 with log:=l'},L[k].2.1,some v')) ro (.slice (some ⟨g,0,none⟩) n l) vr vn vo vt vu vk vb)/\Hid (aN (fun b=>(b<base/\b≠B)\/K b) w (c.setCell ⟨g,k * 5+4,none⟩ v')):=by
 have r:=(kI a.aDz i).2 v j;have y:=a.aDz.lt g rfl;exact⟨a.log i j m o (yS p (lR _)) q,((aJ t).trans ((cZ m).mono (fun b _ f e=>f.elim (fun h=>qD ((r.1.lt b e.symm).1) h.1) (fun h=>(a.aD3 k i).2 b (cN.2 ⟨v,j,e.symm⟩) h)))).trans ((aI _).mono (fun b _ f e=>f.elim (fun h=>qA h.1) (fun h=>(a.kept b h).2.1 (by rw[e];rfl))))⟩
theorem Pz{K:nP}{base B:Nat}(o:Op)(ho:iU o)(s:Sto)(what:bY)(aw:what.size<=cQ)(w:World)(b:¬K B)(hB:B<base)(hl:s.aDz.length<=990000)(bf:∀c∈s.aDz,c.log.length<=990000)(h:iD K base B w w s):
 Calls prog 90 #[.pointer (some ⟨B,0,none⟩),eW o,.string what] w (fun e w'=>e=.returned (.tuple #[])/\iD K base B w w' (lY s o what)):=by
 obtain⟨L,ro,vc,vr,vn,vo,vt,vu,vk,vb,W,v,_⟩:=h;obtain⟨ca,M,rfl⟩:=v.aDz.slice;have U:=v.len;obtain⟨N,P⟩:=xE L.length;rw[<-P] at W v;obtain⟨r,d⟩:∃O:Obj,O=.cells (aX s (.slice ca N M) vr vn vo vt vu vk vb) 58:=⟨_,rfl⟩;obtain⟨t,ad⟩:∃O:Obj,O=.cells (bW o) 35:=⟨_,rfl⟩;rw[<-d] at W;obtain⟨W0,R⟩:=xE (w.alloc t);have D:Below w.heap.size w W0:=by rw[R];exact aB _ _
 have S:Hid (Kq w B w.heap.size r t W0):=aA ⟨D,aE W D,by rw[R];exact aK _ _ _ rfl⟩;have z:Hid (∀(w':World),(w'.heap[B]? =some r/\w'.heap[w.heap.size]? =some t)->w'.cell? ⟨B,0,none⟩=some (.int .i64 s.aDI)/\w'.cell? ⟨B,1,none⟩=some (.slice ca N M)/\B<w'.heap.size/\w'.cell? ⟨w.heap.size,0,none⟩=some (.int .i64 o.aDy)/\w'.cell? ⟨w.heap.size,1,none⟩=some (.string o.aDO)/\w'.cell? ⟨w.heap.size,2,none⟩=some (.string o.aDF)/\w.heap.size<w'.heap.size):=aA (fun w' F=>by
  have h1:=F.1;have h2:=F.2;rw[d] at h1;rw[ad] at h2;exact⟨aQ h1 0 _ rfl,aQ h1 1 _ rfl,aD h1,aQ h2 0 _ rfl,aQ h2 1 _ rfl,aQ h2 2 _ rfl,aD h2⟩)
 have ai:=aA (fun w' (hb:Below w.heap.size w w')=>v.on hb);have av:=(v.on D).aEK qo;obtain⟨c0,c1,l,p,q,i,j⟩:=z.o _ S.o.2;have Z:=aA (YG _ s.aDz o.aDF w.heap.size W0 av ⟨i,j⟩);have bd:∃f,f=s.aDz.findIdx (fun c=>decide (c.id=o.aDF)):=⟨_,rfl⟩;obtain⟨f,hf⟩:=bd;have ag:Hid (eV (fun x=>decide (x.id=o.aDF)) s.aDz=if f<N then (f:Int) else -1):=aA (by unfold eV;rw[<-hf,P,U]);have aa:Hid (lY s o what=if f<N/\o.aDy≠6 then fH s f (fun c=>oH s c o.aDO what) else s):=aA (by unfold lY;dsimp only;rw[<-hf,P,U]);generalize eV (fun x=>decide (x.id=o.aDF)) s.aDz=ix at *;rw[ad] at R;obtain⟨bj,ay,a8,a1,az,bk⟩:=hD6 b ho aw d P U;have bm:N<=990000:=qo;have ae:Hid (iD K base B w W0 s):=aA ⟨L,ro,_,vr,vn,vo,vt,vu,vk,vb,by rw[<-d];exact S.o.2.1,v.on D,aJ D⟩;unfold eW bW aP at *;have ab:=aA R;clear R D W v d ad P U hf av b ho aw;by_cases Q:f<N
 .have h1:ix=(f:Int):=by rw[ag.o,iP Q]
  subst h1;by_cases h6:o.aDy=6
  .have ba:(o.aDy==(6:Int))=true:=bQ.2 h6;have Y:=aA h6;clear h6;have i0:¬((f:Int)<0):=qo;go_enter func90,ntmps90;go_upto_region 1 with (fail)
   rw[<-ab.o];go_wp2_with fail;refine Z.o.mono ?_;rintro e w1 ⟨rfl,y⟩;obtain⟨c0,c1,l,p,q,i,j⟩:=z.o _ (Kq.on S.o y).2;go_wp2;go_returns;rw[aa.o,iN (fun h=>h.2 Y.o)];exact⟨rfl,ae.o.more y⟩
  .have ba:(o.aDy==(6:Int))=false:=bN.2 h6;have Y:=aA h6;clear h6;have i0:¬((f:Int)<0):=qo;have i1:(f:Int)<(N:Int):=qo;go_enter func90,ntmps90;go_upto_region 1 with (fail)
   rw[<-ab.o];go_wp2_with fail;refine Z.o.mono ?_;rintro e w1 ⟨rfl,y⟩;have G:=aA (Kq.on S.o y);have d:=ai.o _ G.o.1;have E:f<L.length:=by rw[<-az.o];exact Q
   have bh:=aA E;obtain⟨g,la,lc,rfl,hv,al,bn,bc,n,ao,an,bl⟩:=d.logAt E;obtain⟨A,V⟩:∃A,w1.heap[g]? =some A:=⟨_,Array.getElem?_eq_getElem bc⟩;have T:Hid (∀(w':World),(w'.heap[B]? =some r/\w'.heap[w.heap.size]? =some t/\w'.heap[g]? =some A)->w'.cell? ⟨g,f * 5+4,none⟩=some (.slice la L[f].1.log.length lc)/\w'.frozen? ⟨g,f * 5+4,none⟩=false/\g<w'.heap.size):=aA (fun w' F=>⟨(World.cell?_of_block (a:=⟨g,f * 5+4,none⟩) (F.2.2.trans V.symm)).trans al,(World.frozen?_of_block (a:=⟨g,f * 5+4,none⟩) (F.2.2.trans V.symm)).trans (an _),aD F.2.2⟩);have k:Hid (w1.heap[B]? =some r/\w1.heap[w.heap.size]? =some t/\w1.heap[g]? =some A):=aA ⟨G.o.2.1,G.o.2.2,V⟩;obtain⟨H,HV,af,ax⟩:=dE d hv n ao;clear al an V d hv n ao y;obtain⟨c0,c1,l,p,q,i,j⟩:=z.o _ G.o.2;obtain⟨d0,d1,C⟩:=T.o _ k.o;have bo:L[f].1.log.length<=990000:=bf _ (List.mem_of_getElem? (H.o.aDF E));have hh:vR ⟨s.aDI,o.aDO,what⟩:=⟨H.o.aDI,ay.o.2.1,a8.o⟩;generalize hx:L[f].1=x at *;go_upto_region 4 with (fail)
   refine cB 17 [(0,false),(1,false),(2,false),(3,false),(4,false),(5,false),(6,false),(7,false),(8,false),(9,false),(10,false),(11,false),(12,false),(13,true),(14,true),(15,false),(16,false)] [(17,true)] (fun w'=>w'.heap[B]? =some r/\w'.heap[w.heap.size]? =some t/\w'.heap[g]? =some A) (by kernel_rfl) (by kernel_rfl) k.o ?_;simp only[List.cons_append,List.nil_append];have aj:=aA hx;clear hx
   repeat (refine dI rfl (fun K b=> ?_);unfold rd;go_simp;refine b _ (fun bg h1=> ?_) ?_;(· clear b K c0 c1 l p q i j d0 d1 C;obtain⟨c0,c1,l,p,q,i,j⟩:=z.o _ ⟨h1.1,h1.2.1⟩;obtain⟨d0,d1,C⟩:=T.o _ h1;unfold rd;go_simp);clear b K)
   refine bJ rfl (fun J m=> ?_);unfold mv;go_simp;refine m _ _ (fun _=>⟨aE k.o.1 (aB _ _).drew,aE k.o.2.1 (aB _ _).drew,aE k.o.2.2 (aB _ _).drew⟩) ?_;clear m J;refine bJ rfl (fun J m=> ?_);unfold mv;refine iZ (base:=base) Db cC rfl (.tmp 31) (.tmp 40) rfl _ x.log rfl (af.o.on cC (aB _ _).drew) w1.heap.size 1 _ _ _ ⟨s.aDI,o.aDO,what⟩ rfl (aK _ _ _ rfl) ⟨rfl,hh⟩ qo qe (lT H.o.size (aB _ _).drew.size) ?_;intro l' aq A' c' X hG n ak;have ar:some B≠(Value.slice la x.log.length lc).ownBlock:=fun e=>qA ((af.o.lt B e.symm).1)
   have au:some w.heap.size≠(Value.slice la x.log.length lc).ownBlock:=fun e=>by
    have:=((ai.o w (Below.refl _ _)).lt f E).2 w.heap.size (cN.2 ⟨_,HV.o,e.symm⟩);omega
   have I:Hid (X.heap[B]? =some r/\X.heap[w.heap.size]? =some t/\X.heap[g]? =some A):=aA ⟨gL k.o.1 (aB _ _).drew n ar,gL k.o.2.1 (aB _ _).drew n au,gL k.o.2.2 (aB _ _).drew n ax.o⟩;have ah:=aA aq.o;have be:l'.length<=1000000:=by rw[ah.o,aL];simp only[List.length_cons,List.length_nil];omega
   obtain⟨a6,a7⟩:=Dt (H.o.on (aB _ _).drew) E hB (aC G.o.1 (aB _ _).drew) HV.o be n hG ak;refine m _ _ (fun _=>I.o) ?_;clear m J hG n ak aq ar au c0 c1 l p q i j d0 d1 C;obtain⟨c0,c1,l,p,q,i,j⟩:=z.o _ ⟨I.o.1,I.o.2.1⟩;obtain⟨d0,d1,C⟩:=T.o _ I.o
   repeat (refine dI rfl (fun K b=> ?_);unfold rd;go_simp;refine b _ (fun bg h1=> ?_) ?_;(· clear b K c0 c1 l p q i j d0 d1 C;obtain⟨c0,c1,l,p,q,i,j⟩:=z.o _ ⟨h1.1,h1.2.1⟩;obtain⟨d0,d1,C⟩:=T.o _ h1;unfold rd;go_simp);clear b K)
   refine bJ rfl (fun J m=> ?_);unfold mv;go_simp;refine m _ _ (fun h=>absurd h qe) ?_;clear m J;unfold cJ;go_returns;rw[aa.o,iP ⟨Q,Y.o⟩];have e9:({s with aDz:=s.aDz.set f {L[f].1 with log:=l'}}:Sto)=fH s f (fun c=>oH s c o.aDO what):=by
    unfold fH;have bb:s.aDz[f]? =some x:=(H.o.aDF E).trans (congrArg some aj.o);rw[bb];simp only[ah.o,aj.o];rfl
   refine⟨rfl,L.set f ({L[f].1 with log:=l'},L[f].2.1,some (.slice A' l'.length c')),ro,.slice (some ⟨g,0,none⟩) N M,vr,vn,vo,vt,vu,vk,vb,?_,by rw[<-e9];exact a6.o,a7.o⟩;have h8:(X.setCell ⟨g,f * 5+4,none⟩ (.slice A' l'.length c')).heap[B]? =some r:=bE I.o.1 (fun e=>by omega);have e8:aX (fH s f (fun c=>oH s c o.aDO what)) (.slice (some ⟨g,0,none⟩) N M) vr vn vo vt vu vk vb=aX s (.slice (some ⟨g,0,none⟩) N M) vr vn vo vt vu vk vb:=rfl;rw[h8,a1.o,e8]
 .have h1:ix= -1:=by rw[ag.o,iN Q]
  subst h1;go_enter func90,ntmps90;go_upto_region 1 with (fail)
  rw[<-ab.o];go_wp2_with fail;refine Z.o.mono ?_;rintro e w1 ⟨rfl,y⟩;go_wp2;go_returns;rw[aa.o,iN (fun h=>Q h.1)];exact⟨rfl,ae.o.more y⟩
structure kJ (n:Nat) (s:Sto):Prop where
 aDz:s.aDz.length<=n
 aDC:s.aDC.length<=n
 aDG:s.aDG.length<=n
 aD0:∀c∈s.aDz,c.log.length<=n
theorem kJ.more{n m:Nat}{s:Sto}(h:kJ n s)(a:n<=m):kJ m s:=⟨lT h.aDz a,lT h.aDC a,lT h.aDG a,fun c b=>lT (h.aD0 c b) a⟩
theorem YR{n:Nat}{s:Sto}(h:kJ n s)(i:Nat)(a b:bY):kJ (n+1) (fH s i (fun c=>oH s c a b)):=by
 refine⟨?_,Nat.le_succ_of_le h.aDC,Nat.le_succ_of_le h.aDG,fun c e=> ?_⟩
 .have h1:(fH s i (fun c=>oH s c a b)).aDz.length=s.aDz.length:=by
   unfold fH;dsimp only;split
   .exact List.length_set
   .rfl
  rw[h1];exact Nat.le_succ_of_le h.aDz
 .have h1:c∈s.aDz\/∃d,s.aDz[i]? =some d/\c=oH s d a b:=by
   unfold fH at e;dsimp only at e;split at e
   .rename_i d f
    rcases List.mem_or_eq_of_mem_set e with h2|h2
    .exact .inl h2
    .exact .inr ⟨d,f,h2⟩
   .exact .inl e
  rcases h1 with h1|⟨d,f,rfl⟩
  .exact Nat.le_succ_of_le (h.aD0 c h1)
  .have:=h.aD0 d (List.mem_of_getElem? f);unfold oH;simp only[aL,List.length_cons,List.length_nil];omega
theorem Jk{n:Nat}{s:Sto}(h:kJ n s)(o:Op)(what:bY):kJ (n+1) (lY s o what):=by
 unfold lY;dsimp only;split
 .exact YR h _ _ _
 .exact h.more (Nat.le_succ n)
theorem DM{n:Nat}{s:Sto}(h:kJ n s)(o:Op)(r:bY):kJ (n+1) (gC s o r):=
 ⟨Nat.le_succ_of_le h.aDz,by unfold gC;simp only[aL,List.length_cons,List.length_nil];have:=h.aDC;omega,Nat.le_succ_of_le h.aDG,fun c a=>Nat.le_succ_of_le (h.aD0 c a)⟩
theorem Jl{n:Nat}{s:Sto}(h:kJ n s)(o:Op)(d:Bool)(x:Ob):kJ (n+1) (cU o d s x):=by
 unfold cU;split
 .exact Jk h _ _
 .split
  .exact DM h _ _
  .split
   .exact⟨Nat.le_succ_of_le h.aDz,Nat.le_succ_of_le h.aDC,by simp only[aL,List.length_cons,List.length_nil];have:=h.aDG;omega,fun c a=>Nat.le_succ_of_le (h.aD0 c a)⟩
   .exact h.more (Nat.le_succ n)
theorem yA(o:Op)(d:Bool):∀(l:List Ob) (n:Nat) (s:Sto),kJ n s->kJ (n+l.length) (l.foldl (cU o d) s)
 | [],_,_,h=>h
 |x::l,n,s,h=>by
  have:=yA o d l (n+1) _ (Jl h o d x);rw[List.length_cons,show n+(l.length+1)=n+1+l.length by omega];exact this
theorem Jm{α β:Type}(f:β->α->β)(l:List α)(b:β){k:Nat}(a:k<l.length):(l.take (k+1)).foldl f b=f ((l.take k).foldl f b) l[k]:=by
 rw[List.take_succ_eq_append_getElem a,List.foldl_append];rfl
theorem iD.aEp{K:nP}{base B:Nat}{w w':World}{s:Sto}(h:iD K base B w w s)(a:Below w.heap.size w w'):iD (fun b=>K b\/(w.heap.size<=b/\b<w'.heap.size)) base B w' w' s:=by
 obtain⟨L,ro,vc,vr,vn,vo,vt,vu,vk,vb,h1,h2,h3⟩:=h;exact⟨L,ro,vc,vr,vn,vo,vt,vu,vk,vb,aE h1 a,h2.aEp a,aN.refl _ _⟩
theorem iD.size{K:nP}{base B:Nat}{a b:World}{s:Sto}(h:iD K base B a b s):base<=b.heap.size:=by
 obtain⟨_,_,_,_,_,_,_,_,_,_,_,h2,_⟩:=h;exact h2.size
theorem iD.stays{K:nP}{base B:Nat}{a b:World}{s:Sto}(h:iD K base B a b s):aN (fun b=>(b<base/\b≠B)\/K b) a b:=by
 obtain⟨_,_,_,_,_,_,_,_,_,_,_,_,h3⟩:=h;exact h3
theorem UT{K:nP}{base B:Nat}{w d c:World}{s:Sto}{L:List Mix}{ro:Option Value}{vc vr vn vo vt vu vk vb:Value}{i:Obj}(f:bC K base d s L ro vc vr vn vo vt vu vk vb)(a:d.heap[B]? =some i)(k:B<base)(n:Below w.heap.size w d){v':Value}{l':List xV}(g:d.grownBy c vn.ownBlock)(l:aM wG 3 162 c base (fun _=>False) v' l')(m:v'.ownBlock=vn.ownBlock\/v'.ownBlock=some d.heap.size):
 Hid (c.heap[B]? =some i)/\Hid (bC K base c {s with aDG:=l'} L ro vc vr v' vo vt vu vk vb)/\Hid (aN (fun b=>(b<base/\b≠B)\/K b) w c):=by
 have j:∀b,b<base->some b≠vn.ownBlock:=fun b a e=>qA ((f.aDG.lt b e.symm).1)
 exact⟨(g.block B (aD a) (j B k)).trans a,f.aEM g l (yS m (lR _)),(aJ n).trans ((cZ g).mono (fun b _ a=>a.elim (fun h=>j b h.1) (fun h=>(f.kept b h).2.2.2.1)))⟩
theorem QCZ{p:Prop}(h:p:=by
 go_enter func294,ntmps294;go_wp2;go_returns;exact Au (by unfold kG lI;omega)):p:=h
theorem QCj{p:Prop}(h:p:=by
 go_wp2
 all_goals go_returns
 all_goals first|exact Qa ⟨by unfold kG;omega,by unfold lI;omega⟩|exact Au (by unfold kG lI;omega)):p:=h
theorem Tz{p:Prop}(h:p:=by
 go_wp2
 all_goals go_returns
 all_goals (rw[HV.o];exact⟨rfl,rfl⟩)):p:=h
def vT(r:Int×Int)(w:World)(e:Ending)(w':World):Prop:=e=.returned (.tuple #[.int .i64 r.1,.int .i64 r.2])/\w=w'
theorem Qa{P:Prop}[Decidable P]{x:Int}(h:P){w:World}:vT (if P then (x,0) else (0,3)) w (.returned (.tuple #[.int .i64 x,.int .i64 0])) w:=by rw[iP h];exact⟨rfl,rfl⟩
theorem Au{P:Prop}[Decidable P]{x:Int}(h:¬P){w:World}:vT (if P then (x,0) else (0,3)) w (.returned (.tuple #[.int .i64 0,.int .i64 3])) w:=by rw[iN h];exact⟨rfl,rfl⟩
theorem Qb(a b:Int)(ha:bK a)(c:bK b)(w:World):Calls prog 292 #[.int .i64 a,.int .i64 b] w (vT (sW a b) w):=by
 unfold bK at ha c;obtain⟨d,e⟩:=ha;obtain⟨f,g⟩:=c;go_enter func292,ntmps292;exact QCj
theorem Qc(a b:Int)(ha:bK a)(c:bK b)(w:World):Calls prog 293 #[.int .i64 a,.int .i64 b] w (vT (sX a b) w):=by
 unfold bK at ha c;obtain⟨d,e⟩:=ha;obtain⟨f,g⟩:=c;go_enter func293,ntmps293;exact QCj
theorem Qd(n:Int):∃k:Int,IntKind.i64.wrap n=n+k * 18446744073709551616/\-9223372036854775808<=IntKind.i64.wrap n/\IntKind.i64.wrap n<=9223372036854775807:=by
 rw[IntKind.wrap_i64];refine⟨-((n+9223372036854775808) / 18446744073709551616),?_,?_,?_⟩<;>omega
theorem Qe{a b c:Int}(ha:bK a)(e:bK b)(h0:a≠0)(h1:a≠ -1)(f:IntKind.i64.wrap (a * b)=c):(IntKind.i64.wrap (c.tdiv a)=b->(kG<=a * b/\a * b<=lI)/\c=a * b)/\(IntKind.i64.wrap (c.tdiv a)≠b->¬(kG<=a * b/\a * b<=lI)):=by
 unfold bK at ha e;unfold kG lI;obtain⟨k,i,j,l⟩:=Qd (a * b);rw[f] at i j l;have o:=Int.mul_tdiv_add_tmod c a;have s:(c.tmod a).natAbs<a.natAbs:=by
  rw[Int.natAbs_tmod];exact Nat.mod_lt _ (Int.natAbs_pos.2 h0)
 constructor
 .intro d;have q:IntKind.i64.wrap (c.tdiv a)=c.tdiv a:=by
   refine IntWalk.i64_in _ ?_;have h2:(c.tdiv a).natAbs<=c.natAbs:=by rw[Int.natAbs_tdiv];exact Nat.div_le_self _ _
   by_cases g:c.tdiv a=9223372036854775808
   .exfalso;have h3:c= -9223372036854775808:=qo;have h4:(c.tdiv a).natAbs=c.natAbs / a.natAbs:=Int.natAbs_tdiv _ _;rw[g,h3] at h4;have h5:a.natAbs=1:=by
     rcases Nat.lt_or_ge 1 a.natAbs with h|h
     .have:=Nat.div_lt_self (n:=(-9223372036854775808:Int).natAbs) qe h;omega
     .omega
    have h6:a=1:=qo;rw[h6,Int.tdiv_one] at g;omega
   .omega
  rw[q] at d;rw[d] at o;have:c=a * b:=by
   generalize a * b=p at *;generalize c.tmod a=r at *;omega
  exact⟨by rw[<-this];omega,this⟩
 .intro d ⟨h2,h3⟩;have m:c=a * b:=by rw[<-f];exact IntWalk.i64_in _ ⟨h2,h3⟩
  apply d
  rw[m,Int.mul_tdiv_cancel_left _ h0];exact IntWalk.i64_in _ e
theorem Qf(a b:Int)(ha:bK a)(j:bK b)(w:World):Calls prog 294 #[.int .i64 a,.int .i64 b] w (vT (mH a b) w):=by
 have p:=aA ha;have r:=aA j;unfold bK at ha j;obtain⟨v,x⟩:=ha;obtain⟨y,z⟩:=j;by_cases e:a= -1/\b= -9223372036854775808
 .obtain⟨rfl,rfl⟩:=e;exact QCZ
 by_cases g:b= -1/\a= -9223372036854775808
 .obtain⟨rfl,rfl⟩:=g;exact QCZ
 by_cases h0:a=0
 .subst h0;have HV:Hid (mH 0 b=(0,0)):=aA (by unfold mH;rw[Int.zero_mul,iP qe]);clear e;have f:IntKind.i64.wrap (0 * b)=0:=by rw[Int.zero_mul];exact IntWalk.i64_in _ qo
  have d1:((0:Int)== -9223372036854775808)=false:=rfl;go_enter func294,ntmps294;exact Tz
 by_cases h1:a= -1
 .subst h1;have h2:b≠ -9223372036854775808:=fun h=>e ⟨rfl,h⟩
  have d1:(b== -9223372036854775808)=false:=bN.2 h2;have HV:Hid (mH (-1) b=(-b,0)):=aA (by unfold mH kG lI;rw[show (-1:Int) * b= -b by omega,iP qo]);have f:IntKind.i64.wrap (-1 * b)= -b:=by rw[show (-1:Int) * b= -b by omega];exact IntWalk.i64_in _ qo
  have d2:(wrap64 (- -b) != b)=false:=by rw[Int.neg_neg,<-IntWalk.i64_left,IntWalk.i64_in _ qo];simp
  have d3:(wrap64 b != b)=false:=by rw[<-IntWalk.i64_left,IntWalk.i64_in _ qo];simp
  have d4:((-1:Int)== -9223372036854775808)=false:=rfl;have n:wrap64 (-b)= -b:=by rw[<-IntWalk.i64_left];exact IntWalk.i64_in _ qo
  have d5:wrap64 b=b:=by rw[<-IntWalk.i64_left,IntWalk.i64_in _ qo]
  clear e g h2;by_cases l:b= -1
  .subst l;have C:wrap64 1=1:=by rw[<-IntWalk.i64_left];exact IntWalk.i64_in _ qo
   clear n d5 f d1 d2 d3;go_enter func294,ntmps294;exact Tz
  .have d6:(b== -1)=false:=bN.2 l;have s:=aA n;clear l;go_enter func294,ntmps294;go_wp2
   all_goals go_returns
   all_goals (rw[HV.o];exact⟨by show Ending.returned (.tuple #[.int .i64 (wrap64 (-b)),.int .i64 0])=_;rw[s.o],rfl⟩)
 obtain⟨c,f⟩:∃c,IntKind.i64.wrap (a * b)=c:=⟨_,rfl⟩;obtain⟨q,o⟩:∃q,IntKind.i64.wrap (c.tdiv a)=q:=⟨_,rfl⟩;have i:=aA (Qe p.o r.o h0 h1 f);rw[o] at i;have d0:(a==0)=false:=bN.2 h0;have A:(a != 0)=true:=bne_iff_ne.2 h0;have d1:(a== -1)=false:=bN.2 h1;have t:=aA g;have B:wrap64 (c.tdiv a)=q:=by rw[<-IntWalk.i64_left];exact o
 clear e g v x y z;have m:Hid ((b== -1)=true/\(a== -9223372036854775808)=false\/(b== -1)=false):=aA (by
  by_cases k:b= -1
  .exact .inl ⟨bQ.2 k,bN.2 (fun h=>t.o ⟨k,h⟩)⟩
  .exact .inr (bN.2 k))
 by_cases d:q=b
 .have d3:(q != b)=false:=by rw[d];simp
  have HV:Hid (mH a b=(c,0)):=aA (by
   obtain⟨h2,h3⟩:=i.o.1 d;unfold mH;rw[iP h2,h3])
  clear d
  rcases m.o with ⟨d5,d6⟩|d5
  all_goals
   go_enter func294,ntmps294;exact Tz
 .have d3:(q != b)=true:=bne_iff_ne.2 d;have HV:Hid (mH a b=(0,3)):=aA (by
   have h2:=i.o.2 d;unfold mH;rw[iN h2])
  clear d
  rcases m.o with ⟨d5,d6⟩|d5
  all_goals
   go_enter func294,ntmps294;exact Tz
theorem QCS{p:Prop}(h:p:=by
 go_wp2;go_roundw
 case rel=>exact⟨j+1,qo,by go_num,HS2,HB2⟩
 case measure=>simp[intOf];omega):p:=h
theorem sB(b:Bool)(w:World):Calls prog 290 #[.bool b] w (aP (dD (cI b)) w):=by
 have a:Hid (∀x,dD (1,x,ByteArray.empty)=.agg #[.int .i64 1,.int .i64 x,.string ByteArray.empty]):=aA (fun x=>rfl);have e:cI b=(1,if b then 1 else 0,ByteArray.empty):=rfl;rw[e,a.o];clear e;have HBE:=aA (fun c d:Obj=>aC (aB w c) (aB _ d));unfold aP
 cases b
 .go_enter func290,ntmps290;exact QDl
 .go_enter func290,ntmps290;exact QDm
theorem tF{ok:nP}(k:Int)(v:Value)(l:List V3)(w:World)(h:aH VR w ok v l):Calls prog 295 #[.int .i64 k,v] w (aP (.bool (l.all (fun x=>decide (x.1=k)))) w):=by
 obtain⟨a,c,rfl,C⟩:=h.slice;have t:=aA h;clear h;unfold aP;obtain⟨p,hp⟩:∃p:V3->Bool,p=(fun x=>decide (x.1=k)):=⟨_,rfl⟩;have s:=aA hp;rw[<-hp];obtain⟨res,n⟩:=xE (l.all p);rw[<-n];have HR0:Hid ((l.drop 0).all p=res):=aA (by rw[List.drop_zero];exact n.symm);clear n hp;go_enter func295,ntmps295;go_wp2;go_loopw [9] (fun i wr=>∃j:Nat,j<=l.length/\i=.int .i64 j/\Hid ((l.drop j).all p=res)/\Hid (Below w.heap.size w wr)) (fun i _=>l.length - (intOf i).toNat)
 case atStart=>exact Ae
 case round=>
  clear HR0;obtain⟨j,hj,rfl,g,HB⟩:=hrel;by_cases q:j<l.length
  .have z:(j:Int)<(l.length:Int):=qo;obtain⟨b,off,r,rfl,_,B,⟨rfl,y⟩,o⟩:=aH.at bG (t.o.on bG HB.o) q qe;obtain⟨A,D,E⟩:=cR3 o;rw[Nat.add_zero] at A;obtain⟨m,f,HB2⟩:=aY (by have h:=g.o;rw[List.drop_eq_getElem_cons q,List.all_cons] at h;exact h:(p l[j]&&(l.drop (j+1)).all p)=res) (show p l[j]=decide (l[j].1=k) by rw[s.o]) (aC HB.o (aB wr (.cells #[.int .i64 l[j].1,.int .i64 l[j].2.1,.string l[j].2.2] 27)));clear o g y;generalize l[j]=x at *;by_cases e:x.1=k
   .have d:(x.1 != k)=false:=by rw[e];simp
    have HS2:Hid ((l.drop (j+1)).all p=res):=aA (by have:=m.o;rwa [f.o,dX e,Bool.true_and] at this);clear e m f;exact QCS
   .have d:(x.1 != k)=true:=bne_iff_ne.2 e;have HS2:Hid (false=res):=aA (by have:=m.o;rwa [f.o,dF e,Bool.false_and] at this);clear e m f;go_wp2;go_returns;exact⟨by rw[<-HS2.o];rfl,HB2.o⟩
  .have z:¬(j:Int)<(l.length:Int):=qo;obtain rfl:j=l.length:=qo;have HE:Hid (true=res):=aA (by have:=g.o;rwa [List.drop_length] at this);clear g;exact To
def SL(op:Int):Nat:=if op=11 then 1 else 2
theorem nS{ok:nP}(op:Int)(v:Value)(l:List V3)(w:World)(h:aH VR w ok v l)(h6:6<=op)(h13:op<=13)(d:l.length=SL op):Calls prog 289 #[.int .i64 op,v] w (aP (.bool (l.all aT)) w):=by
 obtain⟨a,c,rfl,F⟩:=h.slice;have D:=aA h;clear h;unfold aP;obtain⟨res,s⟩:=xE (l.all aT);rw[<-s];have HR0:Hid ((l.drop 0).all aT=res):=aA (by rw[List.drop_zero];exact s.symm);have d1:decide (op<6)=false:=dF qo;have d2:decide (op > 13)=false:=dF qo;obtain⟨n,q⟩:=xE l.length;have t:=aA q;rw[<-q] at d F ⊢;clear s q;have E:Hid ((op==11)=true/\n=1\/(op==11)=false/\n=2):=aA (by
  unfold SL at d;by_cases m:op=11
  .rw[iP m] at d;exact .inl ⟨bQ.2 m,d⟩
  .rw[iN m] at d;exact .inr ⟨bN.2 m,d⟩)
 clear d h6 h13
 rcases E.o with ⟨d3,rfl⟩|⟨d3,rfl⟩
 all_goals
  go_enter func289,ntmps289;go_wp2;go_loopw [24] (fun i wr=>∃j:Nat,j<=l.length/\i=.int .i64 j/\Hid ((l.drop j).all aT=res)/\Hid (Below w.heap.size w wr)) (fun i _=>l.length - (intOf i).toNat)
  case atStart=>exact Ae
  case round=>
   clear HR0;obtain⟨j,hj,rfl,g,HB⟩:=hrel;by_cases B:j<l.length
   .have f:=t.o;have p:(j:Int)<(l.length:Int):=qo;rw[<-f] at p;obtain⟨b,off,r,rfl,_,I,⟨rfl,A⟩,z⟩:=aH.at bG (D.o.on bG HB.o) B qe;obtain⟨C,G,H⟩:=cR3 z;rw[Nat.add_zero] at C;have o:=aA (by have h:=g.o;rw[List.drop_eq_getElem_cons B,List.all_cons] at h;exact h:(aT l[j]&&(l.drop (j+1)).all aT)=res);have k:=aA (fun w=>nK l[j].1 l[j].2.1 l[j].2.2 (tB A.2.2) w);unfold lG at k;have e:aT (l[j].1,l[j].2.1,l[j].2.2)=aT l[j]:=rfl;rw[e] at k;clear z g A f e;generalize l[j]=x at *;generalize aT x=r at *;go_wp2_with fail;refine(k.o _).mono ?_;rintro e w2 ⟨rfl,y⟩;have HB2:=aA (aC (aC HB.o (aB _ _)) y);clear y k C G H
    cases r
    .have HS2:Hid (false=res):=o.o;go_wp2;go_returns;exact⟨by rw[<-HS2.o];rfl,HB2.o⟩
    .have HS2:Hid ((l.drop (j+1)).all aT=res):=o.o;clear o;exact QCS
   .have f:=t.o;have p:¬(j:Int)<(l.length:Int):=qo;rw[<-f] at p;obtain rfl:j=l.length:=qo;have HE:Hid (true=res):=aA (by have:=g.o;rwa [List.drop_length] at this);clear g f;exact To
theorem Zn{p:Prop}(h:p:=by
 by_cases h1:x.1=2
 .rw[dF (p:=y.1=2) (fun h2=>hk ⟨h1,h2⟩),Bool.and_false]
 .rw[dF h1,Bool.false_and]):p:=h
theorem Av{p:Prop}(h:p:=by
 unfold eC;rw[HV2.o];exact⟨rfl,(((fZ HB1.o ⟨_,rfl⟩).setCell (lR _) _).setCell (lR _) _).setCell (lR _) _⟩):p:=h
theorem Zo{p:Prop}(h:p:=by
 clear e hk;go_enter func291,ntmps291;go_wp2_with fail;refine HA.o.mono ?_;rintro e w1 ⟨rfl,hb_⟩;have HB1:=qB HB0 hb_;replace B0:=qK B0 hb_;obtain⟨⟨B00,B01,B02⟩,_⟩:=cD B0.o;have zB0:=aD B0.o;clear hb_ HA;go_wp2;refine bR (.tuple #[.agg #[.int .i64 0,.int .i64 0,.string ⟨#[]⟩],.int .i64 2]) ?_;unfold eC;rw[HV.o];exact⟨rfl,((HB1.o.setCell (lR _) _).setCell (lR _) _).setCell (lR _) _⟩):p:=h
def eC(r:V3×Int)(w:World)(e:Ending)(w':World):Prop:=e=.returned (.tuple #[dD r.1,.int .i64 r.2])/\Below w.heap.size w w'
theorem iV{w:World}{ok:nP}{a:oD}{n c:Nat}{x y:V3}(h:aH VR w ok (.slice a n c) [x,y]):∃b off,a=some ⟨b,off,none⟩/\b<w.heap.size/\cS x/\cS y/\n=2:=by
 obtain⟨b,off,r,e,_,h1,⟨_,g1⟩,_⟩:=aH.at bG (k:=0) h qs qe;obtain⟨_,_,i,_,_,_,⟨_,g2⟩,_⟩:=aH.at bG (k:=1) h qs qe;obtain⟨f,g,d,_⟩:=h.slice;injection d with _ d _;exact⟨b,off,e,h1,g1,g2,d⟩
theorem mX{w:World}{ok:nP}{b off n c:Nat}{x y:V3}(h:aH VR w ok (.slice (some ⟨b,off,none⟩) n c) [x,y]):
 w.cell? ⟨b,off,none⟩=some (.int .i64 x.1)/\w.cell? ⟨b,off+1,none⟩=some (.int .i64 x.2.1)/\w.cell? ⟨b,off+2,none⟩=some (.string x.2.2)/\
 w.cell? ⟨b,off+3,none⟩=some (.int .i64 y.1)/\w.cell? ⟨b,off+3+1,none⟩=some (.int .i64 y.2.1)/\w.cell? ⟨b,off+3+2,none⟩=some (.string y.2.2):=by
 obtain⟨b1,v,r,e,_,h1,⟨rfl,g1⟩,s⟩:=aH.at bG (k:=0) h qs qe;obtain⟨b2,z,A,a,_,_,⟨rfl,g2⟩,t⟩:=aH.at bG (k:=1) h qs qe;injection e with e;injection e with m o _;injection a with a;injection a with p q _;subst m o p q;obtain⟨d,f,g⟩:=cR3 s;obtain⟨i,j,l⟩:=cR3 t;simp only[Nat.zero_mul,Nat.one_mul,Nat.add_zero,List.getElem_cons_zero,List.getElem_cons_succ] at d f g i j l;exact⟨d,f,g,i,j,l⟩
theorem KQ{w:World}{ok:nP}{a:oD}{n c:Nat}{x:V3}(h:aH VR w ok (.slice a n c) [x]):∃b off,a=some ⟨b,off,none⟩/\b<w.heap.size/\cS x/\n=1:=by
 obtain⟨b,off,r,e,_,h1,⟨_,g1⟩,_⟩:=aH.at bG (k:=0) h qs qe;obtain⟨f,g,d,_⟩:=h.slice;injection d with _ d _;exact⟨b,off,e,h1,g1,d⟩
theorem FA{w:World}{ok:nP}{b off n c:Nat}{x:V3}(h:aH VR w ok (.slice (some ⟨b,off,none⟩) n c) [x]):
 w.cell? ⟨b,off,none⟩=some (.int .i64 x.1)/\w.cell? ⟨b,off+1,none⟩=some (.int .i64 x.2.1)/\w.cell? ⟨b,off+2,none⟩=some (.string x.2.2):=by
 obtain⟨b1,l,r,e,_,h1,⟨rfl,g1⟩,j⟩:=aH.at bG (k:=0) h qs qe;injection e with e;injection e with g i _;subst g i;obtain⟨a,d,f⟩:=cR3 j;simp only[Nat.zero_mul,Nat.add_zero,List.getElem_cons_zero] at a d f;exact⟨a,d,f⟩
theorem JB{f:FuncId}{args:Array Value}{w:World}{n:Nat}{r:Int×Int}(h:Calls prog f args (w.drewN n) (vT r (w.drewN n))):Calls prog f args (w.drewN n) fun e w'=>e=.returned (.tuple #[.int .i64 r.1,.int .i64 r.2])/\∃m,w'=w.drewN m:=RJ h
theorem Du{ok:nP}(v:Value)(x y:V3)(w:World)(h:aH VR w ok v [x,y]):Calls prog 291 #[.func (.func 292) #[] #[],v] w (eC (eG sW x y) w):=by
 have HB0:=aA (aB w (.cells fV 27));have B0:=aA (aK w (.cells fV 27) _ rfl);have HA:=aA (tF 2 v [x,y] _ (h.on bG HB0.o));have k:=aA h;obtain⟨a,c,rfl,_⟩:=h.slice;obtain⟨b,off,rfl,m,g,i,_⟩:=iV h;clear h;unfold aP at HA;have e:[x,y].all (fun z=>decide (z.1=2))=(decide (x.1=2)&&decide (y.1=2)):=by simp
 rw[e] at HA;clear e;by_cases hk:x.1=2/\y.1=2
 case neg=>
  have e:(decide (x.1=2)&&decide (y.1=2))=false:=by
   exact Zn
  rw[e] at HA;have HV:Hid (eG sW x y=(bD,2)):=aA (iP (by
   by_cases h1:x.1=2
   .exact .inr (fun h2=>hk ⟨h1,h2⟩)
   .exact .inl h1))
  exact Zo
 rw[dX hk.1,dX hk.2,Bool.and_true] at HA;have j:=aA (fun w'=>Qb x.2.1 y.2.1 g.2.1 i.2.1 w');have HV:Hid (eG sW x y=if (sW x.2.1 y.2.1).2≠0 then (bD,(sW x.2.1 y.2.1).2) else ((2,(sW x.2.1 y.2.1).1,ByteArray.empty),0)):=aA (iN (fun h=>h.elim (fun h=>h hk.1) (fun h=>h hk.2)));generalize sW x.2.1 y.2.1=r at *;obtain⟨n,f⟩:=r;clear hk g i;go_enter func291,ntmps291;go_wp2_with fail;refine HA.o.mono ?_;rintro e w1 ⟨rfl,hb_⟩;have HB1:=qB HB0 hb_;have l:=aA (k.o.on bG HB1.o);obtain⟨o,q,s,t,A,B⟩:=mX l.o;replace B0:=qK B0 hb_;obtain⟨⟨B00,B01,B02⟩,_⟩:=cD B0.o;have zB0:=aD B0.o;clear hb_ HA;go_wp2;go_quiet ((go_at_call 292;exact JB (j.o _)))
 by_cases he:f=0
 .have d:(f != 0)=false:=by rw[he];rfl
  have HV2:Hid (eG sW x y=((2,n,ByteArray.empty),0)):=aA (by have:=HV.o;rwa [iN (fun h=>h he)] at this);clear he HV;go_wp2;refine bR (.tuple #[.agg #[.int .i64 2,.int .i64 n,.string ⟨#[]⟩],.int .i64 0]) ?_;exact Av
 .have d:(f != 0)=true:=bne_iff_ne.2 he;have HV2:Hid (eG sW x y=(bD,f)):=aA (by have:=HV.o;rwa [iP he] at this);clear he HV;go_wp2;refine bR (.tuple #[.agg #[.int .i64 0,.int .i64 0,.string ⟨#[]⟩],.int .i64 f]) ?_;exact Av
theorem Dv{ok:nP}(v:Value)(x y:V3)(w:World)(h:aH VR w ok v [x,y]):Calls prog 291 #[.func (.func 293) #[] #[],v] w (eC (eG sX x y) w):=by
 have HB0:=aA (aB w (.cells fV 27));have B0:=aA (aK w (.cells fV 27) _ rfl);have HA:=aA (tF 2 v [x,y] _ (h.on bG HB0.o));have k:=aA h;obtain⟨a,c,rfl,_⟩:=h.slice;obtain⟨b,off,rfl,m,g,i,_⟩:=iV h;clear h;unfold aP at HA;have e:[x,y].all (fun z=>decide (z.1=2))=(decide (x.1=2)&&decide (y.1=2)):=by simp
 rw[e] at HA;clear e;by_cases hk:x.1=2/\y.1=2
 case neg=>
  have e:(decide (x.1=2)&&decide (y.1=2))=false:=by
   exact Zn
  rw[e] at HA;have HV:Hid (eG sX x y=(bD,2)):=aA (iP (by
   by_cases h1:x.1=2
   .exact .inr (fun h2=>hk ⟨h1,h2⟩)
   .exact .inl h1))
  exact Zo
 rw[dX hk.1,dX hk.2,Bool.and_true] at HA;have j:=aA (fun w'=>Qc x.2.1 y.2.1 g.2.1 i.2.1 w');have HV:Hid (eG sX x y=if (sX x.2.1 y.2.1).2≠0 then (bD,(sX x.2.1 y.2.1).2) else ((2,(sX x.2.1 y.2.1).1,ByteArray.empty),0)):=aA (iN (fun h=>h.elim (fun h=>h hk.1) (fun h=>h hk.2)));generalize sX x.2.1 y.2.1=r at *;obtain⟨n,f⟩:=r;clear hk g i;go_enter func291,ntmps291;go_wp2_with fail;refine HA.o.mono ?_;rintro e w1 ⟨rfl,hb_⟩;have HB1:=qB HB0 hb_;have l:=aA (k.o.on bG HB1.o);obtain⟨o,q,s,t,A,B⟩:=mX l.o;replace B0:=qK B0 hb_;obtain⟨⟨B00,B01,B02⟩,_⟩:=cD B0.o;have zB0:=aD B0.o;clear hb_ HA;go_wp2;go_quiet ((go_at_call 293;exact JB (j.o _)))
 by_cases he:f=0
 .have d:(f != 0)=false:=by rw[he];rfl
  have HV2:Hid (eG sX x y=((2,n,ByteArray.empty),0)):=aA (by have:=HV.o;rwa [iN (fun h=>h he)] at this);clear he HV;go_wp2;refine bR (.tuple #[.agg #[.int .i64 2,.int .i64 n,.string ⟨#[]⟩],.int .i64 0]) ?_;exact Av
 .have d:(f != 0)=true:=bne_iff_ne.2 he;have HV2:Hid (eG sX x y=(bD,f)):=aA (by have:=HV.o;rwa [iP he] at this);clear he HV;go_wp2;refine bR (.tuple #[.agg #[.int .i64 0,.int .i64 0,.string ⟨#[]⟩],.int .i64 f]) ?_;exact Av
theorem Dw{ok:nP}(v:Value)(x y:V3)(w:World)(h:aH VR w ok v [x,y]):Calls prog 291 #[.func (.func 294) #[] #[],v] w (eC (eG mH x y) w):=by
 have HB0:=aA (aB w (.cells fV 27));have B0:=aA (aK w (.cells fV 27) _ rfl);have HA:=aA (tF 2 v [x,y] _ (h.on bG HB0.o));have k:=aA h;obtain⟨a,c,rfl,_⟩:=h.slice;obtain⟨b,off,rfl,m,g,i,_⟩:=iV h;clear h;unfold aP at HA;have e:[x,y].all (fun z=>decide (z.1=2))=(decide (x.1=2)&&decide (y.1=2)):=by simp
 rw[e] at HA;clear e;by_cases hk:x.1=2/\y.1=2
 case neg=>
  have e:(decide (x.1=2)&&decide (y.1=2))=false:=by
   exact Zn
  rw[e] at HA;have HV:Hid (eG mH x y=(bD,2)):=aA (iP (by
   by_cases h1:x.1=2
   .exact .inr (fun h2=>hk ⟨h1,h2⟩)
   .exact .inl h1))
  exact Zo
 rw[dX hk.1,dX hk.2,Bool.and_true] at HA;have j:=aA (fun w'=>Qf x.2.1 y.2.1 g.2.1 i.2.1 w');have HV:Hid (eG mH x y=if (mH x.2.1 y.2.1).2≠0 then (bD,(mH x.2.1 y.2.1).2) else ((2,(mH x.2.1 y.2.1).1,ByteArray.empty),0)):=aA (iN (fun h=>h.elim (fun h=>h hk.1) (fun h=>h hk.2)));generalize mH x.2.1 y.2.1=r at *;obtain⟨n,f⟩:=r;clear hk g i;go_enter func291,ntmps291;go_wp2_with fail;refine HA.o.mono ?_;rintro e w1 ⟨rfl,hb_⟩;have HB1:=qB HB0 hb_;have l:=aA (k.o.on bG HB1.o);obtain⟨o,q,s,t,A,B⟩:=mX l.o;replace B0:=qK B0 hb_;obtain⟨⟨B00,B01,B02⟩,_⟩:=cD B0.o;have zB0:=aD B0.o;clear hb_ HA;go_wp2;go_quiet ((go_at_call 294;exact JB (j.o _)))
 by_cases he:f=0
 .have d:(f != 0)=false:=by rw[he];rfl
  have HV2:Hid (eG mH x y=((2,n,ByteArray.empty),0)):=aA (by have:=HV.o;rwa [iN (fun h=>h he)] at this);clear he HV;go_wp2;refine bR (.tuple #[.agg #[.int .i64 2,.int .i64 n,.string ⟨#[]⟩],.int .i64 0]) ?_;exact Av
 .have d:(f != 0)=true:=bne_iff_ne.2 he;have HV2:Hid (eG mH x y=(bD,f)):=aA (by have:=HV.o;rwa [iP he] at this);clear he HV;go_wp2;refine bR (.tuple #[.agg #[.int .i64 0,.int .i64 0,.string ⟨#[]⟩],.int .i64 f]) ?_;exact Av
end Go.Proofs.YtdfinmcogbkffaaGreatDoor
