/- Lemmas. -/
import Derived.Test.YtbinmcabjnoliaaGreatDoorMaq
import Derived.IntWalk
namespace Go.Proofs.YtbinmcabjnoliaaGreatDoor
open Go.RowKit
set_option linter.unusedVariables false
set_option linter.unusedSimpArgs false
set_option maxHeartbeats 16000000
open _root_.Go.Proofs.Tryz
set_option maxRecDepth 20000
theorem iB.more{K:nP}{base B:Nat}{a b c:World}{s:Sto}(h:iB K base B a b s)(d:Below b.heap.size b c):iB K base B a c s:=by
 obtain⟨L,ro,vc,vr,vn,vo,vt,vu,vk,vb,h1,h2,h3⟩:=h;exact⟨L,ro,vc,vr,vn,vo,vt,vu,vk,vb,aE h1 d,h2.on d,h3.trans (aJ d)⟩
theorem bC.aD2{K:nP}{base:Nat}{w:World}{s:Sto}{L:List Mix}{ro:Option Value}{vc vr vn vo vt vu vk vb:Value}(h:bC K base w s L ro vc vr vn vo vt vu vk vb)(h1:s.aCQ.length<=1000000):aH pV w (fun b=>K b\/base<=b) vc s.aCQ:=by
 exact QCq
theorem bC.logAt{K:nP}{base:Nat}{w:World}{s:Sto}{L:List Mix}{ro:Option Value}{c:oD}{n d:Nat}{vr vn vo vt vu vk vb:Value}(h:bC K base w s L ro (.slice c n d) vr vn vo vt vu vk vb){k:Nat}(a:k<L.length):
 ∃g la lc,c=some ⟨g,0,none⟩/\L[k].2.2=some (.slice la L[k].1.log.length lc)/\w.cell? ⟨g,k * 5+4,none⟩=some (.slice la L[k].1.log.length lc)/\base<=g/\g<w.heap.size/\aM lE 3 52 w base (fun _=>False) (.slice la L[k].1.log.length lc) L[k].1.log/\some g≠(Value.slice la L[k].1.log.length lc).ownBlock/\(∀i,w.frozen? ⟨g,i,none⟩=false)/\¬K g:=by
 obtain⟨g,r,e,h1,h2,hm,f,j⟩:=h.aCQ.at (dO base K) a qe;obtain⟨y,z,rfl,m,o,p,q,p5⟩:=hm;obtain⟨v,b⟩:=Option.isSome_iff_exists.1 (h.aDi k a);have l:=(kD h.aCQ a).2 v b;rw[b] at p5;obtain⟨rfl,q1,t,x⟩:=p5;obtain⟨la,lc,rfl⟩:=q1.slice;subst e;exact⟨g,la,lc,rfl,b,f 4 _ rfl,h1,h2,q1,fun e=>l.2.1 g e.symm rfl,j,fun a=>(h.kept g a).2.1 rfl⟩
theorem gJ{w1 d c:World}{b:Nat}{O:Obj}{o:Option Nat}(h:w1.heap[b]? =some O)(a:Below w1.heap.size w1 d)(e:d.grownBy c o)(f:some b≠o):c.heap[b]? =some O:=(e.block b (aD (aE h a)) f).trans (aE h a)
theorem Cv{K:nP}{base B:Nat}{w d c:World}{s:Sto}{L:List Mix}{ro:Option Value}{g n l:Nat}{vr vn vo vt vu vk vb:Value}{k:Nat}(a:bC K base d s L ro (.slice (some ⟨g,0,none⟩) n l) vr vn vo vt vu vk vb)(i:k<L.length)(x:B<base)(t:Below w.heap.size w d){v v':Value}(j:L[k].2.2=some v){l':List rS}(q:l'.length<=1000000)(m:d.grownBy c v.ownBlock)(o:aM lE 3 52 c base (fun _=>False) v' l')(p:v'.ownBlock=v.ownBlock\/v'.ownBlock=some d.heap.size):
 Hid (bC K base (c.setCell ⟨g,k * 5+4,none⟩ v') {s with aCQ:=s.aCQ.set k {L[k].1 with log:=l'}} (L.set k ({L[k].1 with log:=l'},L[k].2.1,some v')) ro (.slice (some ⟨g,0,none⟩) n l) vr vn vo vt vu vk vb)/\Hid (aN (fun b=>(b<base/\b≠B)\/K b) w (c.setCell ⟨g,k * 5+4,none⟩ v')):=by
 have r:=(kD a.aCQ i).2 v j;have y:=a.aCQ.lt g rfl;exact⟨a.log i j m o (yP p (lR _)) q,((aJ t).trans ((cW m).mono (fun b _ f e=>f.elim (fun h=>qD ((r.1.lt b e.symm).1) h.1) (fun h=>(a.aDl k i).2 b (cM.2 ⟨v,j,e.symm⟩) h)))).trans ((aI _).mono (fun b _ f e=>f.elim (fun h=>qA h.1) (fun h=>(a.kept b h).2.1 (by rw[e];rfl))))⟩
theorem Ol{K:nP}{base B:Nat}(o:Op)(ho:kF o)(s:Sto)(what:bY)(aw:what.size<=cQ)(w:World)(b:¬K B)(hB:B<base)(hl:s.aCQ.length<=990000)(bf:∀c∈s.aCQ,c.log.length<=990000)(h:iB K base B w w s):
 Calls prog 113 #[.pointer (some ⟨B,0,none⟩),fF o,.string what] w (fun e w'=>e=.returned (.tuple #[])/\iB K base B w w' (lV s o what)):=by
 obtain⟨L,ro,vc,vr,vn,vo,vt,vu,vk,vb,W,v,_⟩:=h;obtain⟨ca,M,rfl⟩:=v.aCQ.slice;have U:=v.len;obtain⟨N,P⟩:=xE L.length;rw[<-P] at W v;obtain⟨r,d⟩:∃O:Obj,O=.cells (aV s (.slice ca N M) vr vn vo vt vu vk vb) 40:=⟨_,rfl⟩;obtain⟨t,ad⟩:∃O:Obj,O=.cells (cB o) 71:=⟨_,rfl⟩;rw[<-d] at W;obtain⟨W0,R⟩:=xE (w.alloc t);have D:Below w.heap.size w W0:=by rw[R];exact aB _ _
 have S:Hid (Kq w B w.heap.size r t W0):=aA ⟨D,aE W D,by rw[R];exact aK _ _ _ rfl⟩;have z:Hid (∀(w':World),(w'.heap[B]? =some r/\w'.heap[w.heap.size]? =some t)->w'.cell? ⟨B,0,none⟩=some (.int .i64 s.aCZ)/\w'.cell? ⟨B,1,none⟩=some (.slice ca N M)/\B<w'.heap.size/\w'.cell? ⟨w.heap.size,0,none⟩=some (.int .i64 o.aCR)/\w'.cell? ⟨w.heap.size,1,none⟩=some (.string o.aC6)/\w'.cell? ⟨w.heap.size,2,none⟩=some (.string o.aCX)/\w.heap.size<w'.heap.size):=aA (fun w' F=>by
  have h1:=F.1;have h2:=F.2;rw[d] at h1;rw[ad] at h2;exact⟨aQ h1 0 _ rfl,aQ h1 1 _ rfl,aD h1,aQ h2 0 _ rfl,aQ h2 1 _ rfl,aQ h2 2 _ rfl,aD h2⟩)
 have ai:=aA (fun w' (hb:Below w.heap.size w w')=>v.on hb);have av:=(v.on D).aD2 qo;obtain⟨c0,c1,l,p,q,i,j⟩:=z.o _ S.o.2;have Z:=aA (XO _ s.aCQ o.aCX w.heap.size W0 av ⟨i,j⟩);have bd:∃f,f=s.aCQ.findIdx (fun c=>decide (c.id=o.aCX)):=⟨_,rfl⟩;obtain⟨f,hf⟩:=bd;have ag:Hid (eU (fun x=>decide (x.id=o.aCX)) s.aCQ=if f<N then (f:Int) else -1):=aA (by unfold eU;rw[<-hf,P,U]);have aa:Hid (lV s o what=if f<N/\o.aCR≠6 then fE s f (fun c=>oC s c o.aC6 what) else s):=aA (by unfold lV;dsimp only;rw[<-hf,P,U]);generalize eU (fun x=>decide (x.id=o.aCX)) s.aCQ=ix at *;rw[ad] at R;obtain⟨bj,ay,a8,a1,az,bk⟩:=hD6 b ho aw d P U;have bm:N<=990000:=qo;have ae:Hid (iB K base B w W0 s):=aA ⟨L,ro,_,vr,vn,vo,vt,vu,vk,vb,by rw[<-d];exact S.o.2.1,v.on D,aJ D⟩;unfold fF cB aO at *;have ab:=aA R;clear R D W v d ad P U hf av b ho aw;by_cases Q:f<N
 .have h1:ix=(f:Int):=by rw[ag.o,iP Q]
  subst h1;by_cases h6:o.aCR=6
  .have ba:(o.aCR==(6:Int))=true:=bQ.2 h6;have Y:=aA h6;clear h6;have i0:¬((f:Int)<0):=qo;go_enter func113,ntmps113;go_upto_region 1 with (fail)
   rw[<-ab.o];go_wp2_with fail;refine Z.o.mono ?_;rintro e w1 ⟨rfl,y⟩;obtain⟨c0,c1,l,p,q,i,j⟩:=z.o _ (Kq.on S.o y).2;go_wp2;go_returns;rw[aa.o,iN (fun h=>h.2 Y.o)];exact⟨rfl,ae.o.more y⟩
  .have ba:(o.aCR==(6:Int))=false:=bN.2 h6;have Y:=aA h6;clear h6;have i0:¬((f:Int)<0):=qo;have i1:(f:Int)<(N:Int):=qo;go_enter func113,ntmps113;go_upto_region 1 with (fail)
   rw[<-ab.o];go_wp2_with fail;refine Z.o.mono ?_;rintro e w1 ⟨rfl,y⟩;have G:=aA (Kq.on S.o y);have d:=ai.o _ G.o.1;have E:f<L.length:=by rw[<-az.o];exact Q
   have bh:=aA E;obtain⟨g,la,lc,rfl,hv,al,bn,bc,n,ao,an,bl⟩:=d.logAt E;obtain⟨A,V⟩:∃A,w1.heap[g]? =some A:=⟨_,Array.getElem?_eq_getElem bc⟩;have T:Hid (∀(w':World),(w'.heap[B]? =some r/\w'.heap[w.heap.size]? =some t/\w'.heap[g]? =some A)->w'.cell? ⟨g,f * 5+4,none⟩=some (.slice la L[f].1.log.length lc)/\w'.frozen? ⟨g,f * 5+4,none⟩=false/\g<w'.heap.size):=aA (fun w' F=>⟨(World.cell?_of_block (a:=⟨g,f * 5+4,none⟩) (F.2.2.trans V.symm)).trans al,(World.frozen?_of_block (a:=⟨g,f * 5+4,none⟩) (F.2.2.trans V.symm)).trans (an _),aD F.2.2⟩);have k:Hid (w1.heap[B]? =some r/\w1.heap[w.heap.size]? =some t/\w1.heap[g]? =some A):=aA ⟨G.o.2.1,G.o.2.2,V⟩;obtain⟨H,HV,af,ax⟩:=dG d hv n ao;clear al an V d hv n ao y;obtain⟨c0,c1,l,p,q,i,j⟩:=z.o _ G.o.2;obtain⟨d0,d1,C⟩:=T.o _ k.o;have bo:L[f].1.log.length<=990000:=bf _ (List.mem_of_getElem? (H.o.aCX E));have hh:vL ⟨s.aCZ,o.aC6,what⟩:=⟨H.o.aCZ,ay.o.2.1,a8.o⟩;generalize hx:L[f].1=x at *;go_upto_region 4 with (fail)
   refine cA 17 [(0,false),(1,false),(2,false),(3,false),(4,false),(5,false),(6,false),(7,false),(8,false),(9,false),(10,false),(11,false),(12,false),(13,true),(14,true),(15,false),(16,false)] [(17,true)] (fun w'=>w'.heap[B]? =some r/\w'.heap[w.heap.size]? =some t/\w'.heap[g]? =some A) (by kernel_rfl) (by kernel_rfl) k.o ?_;simp only[List.cons_append,List.nil_append];have aj:=aA hx;clear hx
   repeat (refine cU rfl (fun K b=> ?_);unfold rd;go_simp;refine b _ (fun bg h1=> ?_) ?_;(· clear b K c0 c1 l p q i j d0 d1 C;obtain⟨c0,c1,l,p,q,i,j⟩:=z.o _ ⟨h1.1,h1.2.1⟩;obtain⟨d0,d1,C⟩:=T.o _ h1;unfold rd;go_simp);clear b K)
   refine bG rfl (fun J m=> ?_);unfold mv;go_simp;refine m _ _ (fun _=>⟨aE k.o.1 (aB _ _).drew,aE k.o.2.1 (aB _ _).drew,aE k.o.2.2 (aB _ _).drew⟩) ?_;clear m J;refine bG rfl (fun J m=> ?_);unfold mv;refine iX (base:=base) Cc bS rfl (.tmp 31) (.tmp 40) rfl _ x.log rfl (af.o.on bS (aB _ _).drew) w1.heap.size 1 _ _ _ ⟨s.aCZ,o.aC6,what⟩ rfl (aK _ _ _ rfl) ⟨rfl,hh⟩ qo qe (lT H.o.size (aB _ _).drew.size) ?_;intro l' aq A' c' X hG n ak;have ar:some B≠(Value.slice la x.log.length lc).ownBlock:=fun e=>qA ((af.o.lt B e.symm).1)
   have au:some w.heap.size≠(Value.slice la x.log.length lc).ownBlock:=fun e=>by
    have:=((ai.o w (Below.refl _ _)).lt f E).2 w.heap.size (cM.2 ⟨_,HV.o,e.symm⟩);omega
   have I:Hid (X.heap[B]? =some r/\X.heap[w.heap.size]? =some t/\X.heap[g]? =some A):=aA ⟨gJ k.o.1 (aB _ _).drew n ar,gJ k.o.2.1 (aB _ _).drew n au,gJ k.o.2.2 (aB _ _).drew n ax.o⟩;have ah:=aA aq.o;have be:l'.length<=1000000:=by rw[ah.o,aL];simp only[List.length_cons,List.length_nil];omega
   obtain⟨a6,a7⟩:=Cv (H.o.on (aB _ _).drew) E hB (aC G.o.1 (aB _ _).drew) HV.o be n hG ak;refine m _ _ (fun _=>I.o) ?_;clear m J hG n ak aq ar au c0 c1 l p q i j d0 d1 C;obtain⟨c0,c1,l,p,q,i,j⟩:=z.o _ ⟨I.o.1,I.o.2.1⟩;obtain⟨d0,d1,C⟩:=T.o _ I.o
   repeat (refine cU rfl (fun K b=> ?_);unfold rd;go_simp;refine b _ (fun bg h1=> ?_) ?_;(· clear b K c0 c1 l p q i j d0 d1 C;obtain⟨c0,c1,l,p,q,i,j⟩:=z.o _ ⟨h1.1,h1.2.1⟩;obtain⟨d0,d1,C⟩:=T.o _ h1;unfold rd;go_simp);clear b K)
   refine bG rfl (fun J m=> ?_);unfold mv;go_simp;refine m _ _ (fun h=>absurd h qe) ?_;clear m J;unfold cG;go_returns;rw[aa.o,iP ⟨Q,Y.o⟩];have e9:({s with aCQ:=s.aCQ.set f {L[f].1 with log:=l'}}:Sto)=fE s f (fun c=>oC s c o.aC6 what):=by
    unfold fE;have bb:s.aCQ[f]? =some x:=(H.o.aCX E).trans (congrArg some aj.o);rw[bb];simp only[ah.o,aj.o];rfl
   refine⟨rfl,L.set f ({L[f].1 with log:=l'},L[f].2.1,some (.slice A' l'.length c')),ro,.slice (some ⟨g,0,none⟩) N M,vr,vn,vo,vt,vu,vk,vb,?_,by rw[<-e9];exact a6.o,a7.o⟩;have h8:(X.setCell ⟨g,f * 5+4,none⟩ (.slice A' l'.length c')).heap[B]? =some r:=bE I.o.1 (fun e=>by omega);have e8:aV (fE s f (fun c=>oC s c o.aC6 what)) (.slice (some ⟨g,0,none⟩) N M) vr vn vo vt vu vk vb=aV s (.slice (some ⟨g,0,none⟩) N M) vr vn vo vt vu vk vb:=rfl;rw[h8,a1.o,e8]
 .have h1:ix= -1:=by rw[ag.o,iN Q]
  subst h1;go_enter func113,ntmps113;go_upto_region 1 with (fail)
  rw[<-ab.o];go_wp2_with fail;refine Z.o.mono ?_;rintro e w1 ⟨rfl,y⟩;go_wp2;go_returns;rw[aa.o,iN (fun h=>Q h.1)];exact⟨rfl,ae.o.more y⟩
structure kE (n:Nat) (s:Sto):Prop where
 aCQ:s.aCQ.length<=n
 aCU:s.aCU.length<=n
 aCY:s.aCY.length<=n
 aDi:∀c∈s.aCQ,c.log.length<=n
theorem kE.more{n m:Nat}{s:Sto}(h:kE n s)(a:n<=m):kE m s:=⟨lT h.aCQ a,lT h.aCU a,lT h.aCY a,fun c b=>lT (h.aDi c b) a⟩
theorem XZ{n:Nat}{s:Sto}(h:kE n s)(i:Nat)(a b:bY):kE (n+1) (fE s i (fun c=>oC s c a b)):=by
 refine⟨?_,Nat.le_succ_of_le h.aCU,Nat.le_succ_of_le h.aCY,fun c e=> ?_⟩
 .have h1:(fE s i (fun c=>oC s c a b)).aCQ.length=s.aCQ.length:=by
   unfold fE;dsimp only;split
   .exact List.length_set
   .rfl
  rw[h1];exact Nat.le_succ_of_le h.aCQ
 .have h1:c∈s.aCQ\/∃d,s.aCQ[i]? =some d/\c=oC s d a b:=by
   unfold fE at e;dsimp only at e;split at e
   .rename_i d f
    rcases List.mem_or_eq_of_mem_set e with h2|h2
    .exact .inl h2
    .exact .inr ⟨d,f,h2⟩
   .exact .inl e
  rcases h1 with h1|⟨d,f,rfl⟩
  .exact Nat.le_succ_of_le (h.aDi c h1)
  .have:=h.aDi d (List.mem_of_getElem? f);unfold oC;simp only[aL,List.length_cons,List.length_nil];omega
theorem Ie{n:Nat}{s:Sto}(h:kE n s)(o:Op)(what:bY):kE (n+1) (lV s o what):=by
 unfold lV;dsimp only;split
 .exact XZ h _ _ _
 .exact h.more (Nat.le_succ n)
theorem DK{n:Nat}{s:Sto}(h:kE n s)(o:Op)(r:bY):kE (n+1) (gB s o r):=
 ⟨Nat.le_succ_of_le h.aCQ,by unfold gB;simp only[aL,List.length_cons,List.length_nil];have:=h.aCU;omega,Nat.le_succ_of_le h.aCY,fun c a=>Nat.le_succ_of_le (h.aDi c a)⟩
theorem If{n:Nat}{s:Sto}(h:kE n s)(o:Op)(d:Bool)(x:Ob):kE (n+1) (cZ o d s x):=by
 unfold cZ;split
 .exact Ie h _ _
 .split
  .exact DK h _ _
  .split
   .exact⟨Nat.le_succ_of_le h.aCQ,Nat.le_succ_of_le h.aCU,by simp only[aL,List.length_cons,List.length_nil];have:=h.aCY;omega,fun c a=>Nat.le_succ_of_le (h.aDi c a)⟩
   .exact h.more (Nat.le_succ n)
theorem xW(o:Op)(d:Bool):∀(l:List Ob) (n:Nat) (s:Sto),kE n s->kE (n+l.length) (l.foldl (cZ o d) s)
 | [],_,_,h=>h
 |x::l,n,s,h=>by
  have:=xW o d l (n+1) _ (If h o d x);rw[List.length_cons,show n+(l.length+1)=n+1+l.length by omega];exact this
theorem Ig{α β:Type}(f:β->α->β)(l:List α)(b:β){k:Nat}(a:k<l.length):(l.take (k+1)).foldl f b=f ((l.take k).foldl f b) l[k]:=by
 rw[List.take_succ_eq_append_getElem a,List.foldl_append];rfl
theorem iB.aDH{K:nP}{base B:Nat}{w w':World}{s:Sto}(h:iB K base B w w s)(a:Below w.heap.size w w'):iB (fun b=>K b\/(w.heap.size<=b/\b<w'.heap.size)) base B w' w' s:=by
 obtain⟨L,ro,vc,vr,vn,vo,vt,vu,vk,vb,h1,h2,h3⟩:=h;exact⟨L,ro,vc,vr,vn,vo,vt,vu,vk,vb,aE h1 a,h2.aDH a,aN.refl _ _⟩
theorem iB.size{K:nP}{base B:Nat}{a b:World}{s:Sto}(h:iB K base B a b s):base<=b.heap.size:=by
 obtain⟨_,_,_,_,_,_,_,_,_,_,_,h2,_⟩:=h;exact h2.size
theorem iB.stays{K:nP}{base B:Nat}{a b:World}{s:Sto}(h:iB K base B a b s):aN (fun b=>(b<base/\b≠B)\/K b) a b:=by
 obtain⟨_,_,_,_,_,_,_,_,_,_,_,_,h3⟩:=h;exact h3
theorem UD{K:nP}{base B:Nat}{w d c:World}{s:Sto}{L:List Mix}{ro:Option Value}{vc vr vn vo vt vu vk vb:Value}{i:Obj}(f:bC K base d s L ro vc vr vn vo vt vu vk vb)(a:d.heap[B]? =some i)(k:B<base)(n:Below w.heap.size w d){v':Value}{l':List xQ}(g:d.grownBy c vn.ownBlock)(l:aM vV 3 186 c base (fun _=>False) v' l')(m:v'.ownBlock=vn.ownBlock\/v'.ownBlock=some d.heap.size):
 Hid (c.heap[B]? =some i)/\Hid (bC K base c {s with aCY:=l'} L ro vc vr v' vo vt vu vk vb)/\Hid (aN (fun b=>(b<base/\b≠B)\/K b) w c):=by
 have j:∀b,b<base->some b≠vn.ownBlock:=fun b a e=>qA ((f.aCY.lt b e.symm).1)
 exact⟨(g.block B (aD a) (j B k)).trans a,f.aD4 g l (yP m (lR _)),(aJ n).trans ((cW g).mono (fun b _ a=>a.elim (fun h=>j b h.1) (fun h=>(f.kept b h).2.2.2.1)))⟩
theorem QCX{p:Prop}(h:p:=by
 go_enter func295,ntmps295;go_wp2;go_returns;exact ZZ (by unfold kA lF;omega)):p:=h
theorem QCh{p:Prop}(h:p:=by
 go_wp2
 all_goals go_returns
 all_goals first|exact Om ⟨by unfold kA;omega,by unfold lF;omega⟩|exact ZZ (by unfold kA lF;omega)):p:=h
theorem Sn{p:Prop}(h:p:=by
 go_wp2
 all_goals go_returns
 all_goals (rw[HV.o];exact⟨rfl,rfl⟩)):p:=h
def vN(r:Int×Int)(w:World)(e:Ending)(w':World):Prop:=e=.returned (.tuple #[.int .i64 r.1,.int .i64 r.2])/\w=w'
theorem Om{P:Prop}[Decidable P]{x:Int}(h:P){w:World}:vN (if P then (x,0) else (0,3)) w (.returned (.tuple #[.int .i64 x,.int .i64 0])) w:=by rw[iP h];exact⟨rfl,rfl⟩
theorem ZZ{P:Prop}[Decidable P]{x:Int}(h:¬P){w:World}:vN (if P then (x,0) else (0,3)) w (.returned (.tuple #[.int .i64 0,.int .i64 3])) w:=by rw[iN h];exact⟨rfl,rfl⟩
theorem On(a b:Int)(ha:bK a)(c:bK b)(w:World):Calls prog 293 #[.int .i64 a,.int .i64 b] w (vN (sQ a b) w):=by
 unfold bK at ha c;obtain⟨d,e⟩:=ha;obtain⟨f,g⟩:=c;go_enter func293,ntmps293;exact QCh
theorem Oo(a b:Int)(ha:bK a)(c:bK b)(w:World):Calls prog 294 #[.int .i64 a,.int .i64 b] w (vN (sR a b) w):=by
 unfold bK at ha c;obtain⟨d,e⟩:=ha;obtain⟨f,g⟩:=c;go_enter func294,ntmps294;exact QCh
theorem Oq(n:Int):∃k:Int,IntKind.i64.wrap n=n+k * 18446744073709551616/\-9223372036854775808<=IntKind.i64.wrap n/\IntKind.i64.wrap n<=9223372036854775807:=by
 rw[IntKind.wrap_i64];refine⟨-((n+9223372036854775808) / 18446744073709551616),?_,?_,?_⟩<;>omega
theorem Ot{a b c:Int}(ha:bK a)(e:bK b)(h0:a≠0)(h1:a≠ -1)(f:IntKind.i64.wrap (a * b)=c):(IntKind.i64.wrap (c.tdiv a)=b->(kA<=a * b/\a * b<=lF)/\c=a * b)/\(IntKind.i64.wrap (c.tdiv a)≠b->¬(kA<=a * b/\a * b<=lF)):=by
 unfold bK at ha e;unfold kA lF;obtain⟨k,i,j,l⟩:=Oq (a * b);rw[f] at i j l;have o:=Int.mul_tdiv_add_tmod c a;have s:(c.tmod a).natAbs<a.natAbs:=by
  rw[Int.natAbs_tmod];exact Nat.mod_lt _ (Int.natAbs_pos.2 h0)
 constructor
 .intro d;have q:IntKind.i64.wrap (c.tdiv a)=c.tdiv a:=by
   refine IntWalk.i64_in _ ?_;have h2:(c.tdiv a).natAbs<=c.natAbs:=by rw[Int.natAbs_tdiv];exact Nat.div_le_self _ _
   by_cases g:c.tdiv a=9223372036854775808
   .exfalso;have h3:c= -9223372036854775808:=qo;have h4:(c.tdiv a).natAbs=c.natAbs / a.natAbs:=Int.natAbs_tdiv _ _;rw[g,h3] at h4;have h5:a.natAbs=1:=by
     rcases Nat.lt_or_ge 1 a.natAbs with h|h
     .have:=Nat.div_lt_self (n:=(-9223372036854775808:Int).natAbs) qe h;omega
     .omega
    have h6:a=1:=qo;rw[h6,Int.tdiv_one] at g;omega
   .omega
  rw[q] at d;rw[d] at o;have:c=a * b:=by
   generalize a * b=p at *;generalize c.tmod a=r at *;omega
  exact⟨by rw[<-this];omega,this⟩
 .intro d ⟨h2,h3⟩;have m:c=a * b:=by rw[<-f];exact IntWalk.i64_in _ ⟨h2,h3⟩
  apply d
  rw[m,Int.mul_tdiv_cancel_left _ h0];exact IntWalk.i64_in _ e
theorem Ou(a b:Int)(ha:bK a)(j:bK b)(w:World):Calls prog 295 #[.int .i64 a,.int .i64 b] w (vN (mD a b) w):=by
 have p:=aA ha;have r:=aA j;unfold bK at ha j;obtain⟨v,x⟩:=ha;obtain⟨y,z⟩:=j;by_cases e:a= -1/\b= -9223372036854775808
 .obtain⟨rfl,rfl⟩:=e;exact QCX
 by_cases g:b= -1/\a= -9223372036854775808
 .obtain⟨rfl,rfl⟩:=g;exact QCX
 by_cases h0:a=0
 .subst h0;have HV:Hid (mD 0 b=(0,0)):=aA (by unfold mD;rw[Int.zero_mul,iP qe]);clear e;have f:IntKind.i64.wrap (0 * b)=0:=by rw[Int.zero_mul];exact IntWalk.i64_in _ qo
  have d1:((0:Int)== -9223372036854775808)=false:=rfl;go_enter func295,ntmps295;exact Sn
 by_cases h1:a= -1
 .subst h1;have h2:b≠ -9223372036854775808:=fun h=>e ⟨rfl,h⟩
  have d1:(b== -9223372036854775808)=false:=bN.2 h2;have HV:Hid (mD (-1) b=(-b,0)):=aA (by unfold mD kA lF;rw[show (-1:Int) * b= -b by omega,iP qo]);have f:IntKind.i64.wrap (-1 * b)= -b:=by rw[show (-1:Int) * b= -b by omega];exact IntWalk.i64_in _ qo
  have d2:(wrap64 (- -b) != b)=false:=by rw[Int.neg_neg,<-IntWalk.i64_left,IntWalk.i64_in _ qo];simp
  have d3:(wrap64 b != b)=false:=by rw[<-IntWalk.i64_left,IntWalk.i64_in _ qo];simp
  have d4:((-1:Int)== -9223372036854775808)=false:=rfl;have n:wrap64 (-b)= -b:=by rw[<-IntWalk.i64_left];exact IntWalk.i64_in _ qo
  have d5:wrap64 b=b:=by rw[<-IntWalk.i64_left,IntWalk.i64_in _ qo]
  clear e g h2;by_cases l:b= -1
  .subst l;have C:wrap64 1=1:=by rw[<-IntWalk.i64_left];exact IntWalk.i64_in _ qo
   clear n d5 f d1 d2 d3;go_enter func295,ntmps295;exact Sn
  .have d6:(b== -1)=false:=bN.2 l;have s:=aA n;clear l;go_enter func295,ntmps295;go_wp2
   all_goals go_returns
   all_goals (rw[HV.o];exact⟨by show Ending.returned (.tuple #[.int .i64 (wrap64 (-b)),.int .i64 0])=_;rw[s.o],rfl⟩)
 obtain⟨c,f⟩:∃c,IntKind.i64.wrap (a * b)=c:=⟨_,rfl⟩;obtain⟨q,o⟩:∃q,IntKind.i64.wrap (c.tdiv a)=q:=⟨_,rfl⟩;have i:=aA (Ot p.o r.o h0 h1 f);rw[o] at i;have d0:(a==0)=false:=bN.2 h0;have A:(a != 0)=true:=bne_iff_ne.2 h0;have d1:(a== -1)=false:=bN.2 h1;have t:=aA g;have B:wrap64 (c.tdiv a)=q:=by rw[<-IntWalk.i64_left];exact o
 clear e g v x y z;have m:Hid ((b== -1)=true/\(a== -9223372036854775808)=false\/(b== -1)=false):=aA (by
  by_cases k:b= -1
  .exact .inl ⟨bQ.2 k,bN.2 (fun h=>t.o ⟨k,h⟩)⟩
  .exact .inr (bN.2 k))
 by_cases d:q=b
 .have d3:(q != b)=false:=by rw[d];simp
  have HV:Hid (mD a b=(c,0)):=aA (by
   obtain⟨h2,h3⟩:=i.o.1 d;unfold mD;rw[iP h2,h3])
  clear d
  rcases m.o with ⟨d5,d6⟩|d5
  all_goals
   go_enter func295,ntmps295;exact Sn
 .have d3:(q != b)=true:=bne_iff_ne.2 d;have HV:Hid (mD a b=(0,3)):=aA (by
   have h2:=i.o.2 d;unfold mD;rw[iN h2])
  clear d
  rcases m.o with ⟨d5,d6⟩|d5
  all_goals
   go_enter func295,ntmps295;exact Sn
theorem QCQ{p:Prop}(h:p:=by
 go_wp2;go_roundw
 case rel=>exact⟨j+1,qo,by go_num,HS2,HB2⟩
 case measure=>simp[intOf];omega):p:=h
theorem rX(b:Bool)(w:World):Calls prog 291 #[.bool b] w (aO (dD (cI b)) w):=by
 have a:Hid (∀x,dD (1,x,ByteArray.empty)=.agg #[.int .i64 1,.int .i64 x,.string ByteArray.empty]):=aA (fun x=>rfl);have e:cI b=(1,if b then 1 else 0,ByteArray.empty):=rfl;rw[e,a.o];clear e;have HBE:=aA (fun c d:Obj=>aC (aB w c) (aB _ d));unfold aO
 cases b
 .go_enter func291,ntmps291;exact QDj
 .go_enter func291,ntmps291;exact QDk
theorem tA{ok:nP}(k:Int)(v:Value)(l:List V3)(w:World)(h:aH VR w ok v l):Calls prog 296 #[.int .i64 k,v] w (aO (.bool (l.all (fun x=>decide (x.1=k)))) w):=by
 obtain⟨a,c,rfl,C⟩:=h.slice;have t:=aA h;clear h;unfold aO;obtain⟨p,hp⟩:∃p:V3->Bool,p=(fun x=>decide (x.1=k)):=⟨_,rfl⟩;have s:=aA hp;rw[<-hp];obtain⟨res,n⟩:=xE (l.all p);rw[<-n];have HR0:Hid ((l.drop 0).all p=res):=aA (by rw[List.drop_zero];exact n.symm);clear n hp;go_enter func296,ntmps296;go_wp2;go_loopw [9] (fun i wr=>∃j:Nat,j<=l.length/\i=.int .i64 j/\Hid ((l.drop j).all p=res)/\Hid (Below w.heap.size w wr)) (fun i _=>l.length - (intOf i).toNat)
 case atStart=>exact ZL
 case round=>
  clear HR0;obtain⟨j,hj,rfl,g,HB⟩:=hrel;by_cases q:j<l.length
  .have z:(j:Int)<(l.length:Int):=qo;obtain⟨b,off,r,rfl,_,B,⟨rfl,y⟩,o⟩:=aH.at bH (t.o.on bH HB.o) q qe;obtain⟨A,D,E⟩:=cR3 o;rw[Nat.add_zero] at A;obtain⟨m,f,HB2⟩:=aY (by have h:=g.o;rw[List.drop_eq_getElem_cons q,List.all_cons] at h;exact h:(p l[j]&&(l.drop (j+1)).all p)=res) (show p l[j]=decide (l[j].1=k) by rw[s.o]) (aC HB.o (aB wr (.cells #[.int .i64 l[j].1,.int .i64 l[j].2.1,.string l[j].2.2] 55)));clear o g y;generalize l[j]=x at *;by_cases e:x.1=k
   .have d:(x.1 != k)=false:=by rw[e];simp
    have HS2:Hid ((l.drop (j+1)).all p=res):=aA (by have:=m.o;rwa [f.o,dX e,Bool.true_and] at this);clear e m f;exact QCQ
   .have d:(x.1 != k)=true:=bne_iff_ne.2 e;have HS2:Hid (false=res):=aA (by have:=m.o;rwa [f.o,dF e,Bool.false_and] at this);clear e m f;go_wp2;go_returns;exact⟨by rw[<-HS2.o];rfl,HB2.o⟩
  .have z:¬(j:Int)<(l.length:Int):=qo;obtain rfl:j=l.length:=qo;have HE:Hid (true=res):=aA (by have:=g.o;rwa [List.drop_length] at this);clear g;exact Sa
def RV(op:Int):Nat:=if op=11 then 1 else 2
theorem nO{ok:nP}(op:Int)(v:Value)(l:List V3)(w:World)(h:aH VR w ok v l)(h6:6<=op)(h13:op<=13)(d:l.length=RV op):Calls prog 290 #[.int .i64 op,v] w (aO (.bool (l.all aT)) w):=by
 obtain⟨a,c,rfl,F⟩:=h.slice;have D:=aA h;clear h;unfold aO;obtain⟨res,s⟩:=xE (l.all aT);rw[<-s];have HR0:Hid ((l.drop 0).all aT=res):=aA (by rw[List.drop_zero];exact s.symm);have d1:decide (op<6)=false:=dF qo;have d2:decide (op > 13)=false:=dF qo;obtain⟨n,q⟩:=xE l.length;have t:=aA q;rw[<-q] at d F ⊢;clear s q;have E:Hid ((op==11)=true/\n=1\/(op==11)=false/\n=2):=aA (by
  unfold RV at d;by_cases m:op=11
  .rw[iP m] at d;exact .inl ⟨bQ.2 m,d⟩
  .rw[iN m] at d;exact .inr ⟨bN.2 m,d⟩)
 clear d h6 h13
 rcases E.o with ⟨d3,rfl⟩|⟨d3,rfl⟩
 all_goals
  go_enter func290,ntmps290;go_wp2;go_loopw [24] (fun i wr=>∃j:Nat,j<=l.length/\i=.int .i64 j/\Hid ((l.drop j).all aT=res)/\Hid (Below w.heap.size w wr)) (fun i _=>l.length - (intOf i).toNat)
  case atStart=>exact ZL
  case round=>
   clear HR0;obtain⟨j,hj,rfl,g,HB⟩:=hrel;by_cases B:j<l.length
   .have f:=t.o;have p:(j:Int)<(l.length:Int):=qo;rw[<-f] at p;obtain⟨b,off,r,rfl,_,I,⟨rfl,A⟩,z⟩:=aH.at bH (D.o.on bH HB.o) B qe;obtain⟨C,G,H⟩:=cR3 z;rw[Nat.add_zero] at C;have o:=aA (by have h:=g.o;rw[List.drop_eq_getElem_cons B,List.all_cons] at h;exact h:(aT l[j]&&(l.drop (j+1)).all aT)=res);have k:=aA (fun w=>nH l[j].1 l[j].2.1 l[j].2.2 (sW A.2.2) w);unfold lD at k;have e:aT (l[j].1,l[j].2.1,l[j].2.2)=aT l[j]:=rfl;rw[e] at k;clear z g A f e;generalize l[j]=x at *;generalize aT x=r at *;go_wp2_with fail;refine(k.o _).mono ?_;rintro e w2 ⟨rfl,y⟩;have HB2:=aA (aC (aC HB.o (aB _ _)) y);clear y k C G H
    cases r
    .have HS2:Hid (false=res):=o.o;go_wp2;go_returns;exact⟨by rw[<-HS2.o];rfl,HB2.o⟩
    .have HS2:Hid ((l.drop (j+1)).all aT=res):=o.o;clear o;exact QCQ
   .have f:=t.o;have p:¬(j:Int)<(l.length:Int):=qo;rw[<-f] at p;obtain rfl:j=l.length:=qo;have HE:Hid (true=res):=aA (by have:=g.o;rwa [List.drop_length] at this);clear g f;exact Sa
theorem Ya{p:Prop}(h:p:=by
 by_cases h1:x.1=2
 .rw[dF (p:=y.1=2) (fun h2=>hk ⟨h1,h2⟩),Bool.and_false]
 .rw[dF h1,Bool.false_and]):p:=h
theorem Aa{p:Prop}(h:p:=by
 unfold eA;rw[HV2.o];exact⟨rfl,(((fJ HB1.o ⟨_,rfl⟩).setCell (lR _) _).setCell (lR _) _).setCell (lR _) _⟩):p:=h
theorem Yb{p:Prop}(h:p:=by
 clear e hk;go_enter func292,ntmps292;go_wp2_with fail;refine HA.o.mono ?_;rintro e w1 ⟨rfl,hb_⟩;have HB1:=qB HB0 hb_;replace B0:=qK B0 hb_;obtain⟨⟨B00,B01,B02⟩,_⟩:=cE B0.o;have zB0:=aD B0.o;clear hb_ HA;go_wp2;refine bR (.tuple #[.agg #[.int .i64 0,.int .i64 0,.string ⟨#[]⟩],.int .i64 2]) ?_;unfold eA;rw[HV.o];exact⟨rfl,((HB1.o.setCell (lR _) _).setCell (lR _) _).setCell (lR _) _⟩):p:=h
def eA(r:V3×Int)(w:World)(e:Ending)(w':World):Prop:=e=.returned (.tuple #[dD r.1,.int .i64 r.2])/\Below w.heap.size w w'
theorem iT{w:World}{ok:nP}{a:oD}{n c:Nat}{x y:V3}(h:aH VR w ok (.slice a n c) [x,y]):∃b off,a=some ⟨b,off,none⟩/\b<w.heap.size/\cS x/\cS y/\n=2:=by
 obtain⟨b,off,r,e,_,h1,⟨_,g1⟩,_⟩:=aH.at bH (k:=0) h qs qe;obtain⟨_,_,i,_,_,_,⟨_,g2⟩,_⟩:=aH.at bH (k:=1) h qs qe;obtain⟨f,g,d,_⟩:=h.slice;injection d with _ d _;exact⟨b,off,e,h1,g1,g2,d⟩
theorem mU{w:World}{ok:nP}{b off n c:Nat}{x y:V3}(h:aH VR w ok (.slice (some ⟨b,off,none⟩) n c) [x,y]):
 w.cell? ⟨b,off,none⟩=some (.int .i64 x.1)/\w.cell? ⟨b,off+1,none⟩=some (.int .i64 x.2.1)/\w.cell? ⟨b,off+2,none⟩=some (.string x.2.2)/\
 w.cell? ⟨b,off+3,none⟩=some (.int .i64 y.1)/\w.cell? ⟨b,off+3+1,none⟩=some (.int .i64 y.2.1)/\w.cell? ⟨b,off+3+2,none⟩=some (.string y.2.2):=by
 obtain⟨b1,v,r,e,_,h1,⟨rfl,g1⟩,s⟩:=aH.at bH (k:=0) h qs qe;obtain⟨b2,z,A,a,_,_,⟨rfl,g2⟩,t⟩:=aH.at bH (k:=1) h qs qe;injection e with e;injection e with m o _;injection a with a;injection a with p q _;subst m o p q;obtain⟨d,f,g⟩:=cR3 s;obtain⟨i,j,l⟩:=cR3 t;simp only[Nat.zero_mul,Nat.one_mul,Nat.add_zero,List.getElem_cons_zero,List.getElem_cons_succ] at d f g i j l;exact⟨d,f,g,i,j,l⟩
theorem KM{w:World}{ok:nP}{a:oD}{n c:Nat}{x:V3}(h:aH VR w ok (.slice a n c) [x]):∃b off,a=some ⟨b,off,none⟩/\b<w.heap.size/\cS x/\n=1:=by
 obtain⟨b,off,r,e,_,h1,⟨_,g1⟩,_⟩:=aH.at bH (k:=0) h qs qe;obtain⟨f,g,d,_⟩:=h.slice;injection d with _ d _;exact⟨b,off,e,h1,g1,d⟩
theorem EW{w:World}{ok:nP}{b off n c:Nat}{x:V3}(h:aH VR w ok (.slice (some ⟨b,off,none⟩) n c) [x]):
 w.cell? ⟨b,off,none⟩=some (.int .i64 x.1)/\w.cell? ⟨b,off+1,none⟩=some (.int .i64 x.2.1)/\w.cell? ⟨b,off+2,none⟩=some (.string x.2.2):=by
 obtain⟨b1,l,r,e,_,h1,⟨rfl,g1⟩,j⟩:=aH.at bH (k:=0) h qs qe;injection e with e;injection e with g i _;subst g i;obtain⟨a,d,f⟩:=cR3 j;simp only[Nat.zero_mul,Nat.add_zero,List.getElem_cons_zero] at a d f;exact⟨a,d,f⟩
theorem IZ{f:FuncId}{args:Array Value}{w:World}{n:Nat}{r:Int×Int}(h:Calls prog f args (w.drewN n) (vN r (w.drewN n))):Calls prog f args (w.drewN n) fun e w'=>e=.returned (.tuple #[.int .i64 r.1,.int .i64 r.2])/\∃m,w'=w.drewN m:=QO h
theorem Cw{ok:nP}(v:Value)(x y:V3)(w:World)(h:aH VR w ok v [x,y]):Calls prog 292 #[.func (.func 293) #[] #[],v] w (eA (eE sQ x y) w):=by
 have HB0:=aA (aB w (.cells fV 55));have B0:=aA (aK w (.cells fV 55) _ rfl);have HA:=aA (tA 2 v [x,y] _ (h.on bH HB0.o));have k:=aA h;obtain⟨a,c,rfl,_⟩:=h.slice;obtain⟨b,off,rfl,m,g,i,_⟩:=iT h;clear h;unfold aO at HA;have e:[x,y].all (fun z=>decide (z.1=2))=(decide (x.1=2)&&decide (y.1=2)):=by simp
 rw[e] at HA;clear e;by_cases hk:x.1=2/\y.1=2
 case neg=>
  have e:(decide (x.1=2)&&decide (y.1=2))=false:=by
   exact Ya
  rw[e] at HA;have HV:Hid (eE sQ x y=(bD,2)):=aA (iP (by
   by_cases h1:x.1=2
   .exact .inr (fun h2=>hk ⟨h1,h2⟩)
   .exact .inl h1))
  exact Yb
 rw[dX hk.1,dX hk.2,Bool.and_true] at HA;have j:=aA (fun w'=>On x.2.1 y.2.1 g.2.1 i.2.1 w');have HV:Hid (eE sQ x y=if (sQ x.2.1 y.2.1).2≠0 then (bD,(sQ x.2.1 y.2.1).2) else ((2,(sQ x.2.1 y.2.1).1,ByteArray.empty),0)):=aA (iN (fun h=>h.elim (fun h=>h hk.1) (fun h=>h hk.2)));generalize sQ x.2.1 y.2.1=r at *;obtain⟨n,f⟩:=r;clear hk g i;go_enter func292,ntmps292;go_wp2_with fail;refine HA.o.mono ?_;rintro e w1 ⟨rfl,hb_⟩;have HB1:=qB HB0 hb_;have l:=aA (k.o.on bH HB1.o);obtain⟨o,q,s,t,A,B⟩:=mU l.o;replace B0:=qK B0 hb_;obtain⟨⟨B00,B01,B02⟩,_⟩:=cE B0.o;have zB0:=aD B0.o;clear hb_ HA;go_wp2;go_quiet ((go_at_call 293;exact IZ (j.o _)))
 by_cases he:f=0
 .have d:(f != 0)=false:=by rw[he];rfl
  have HV2:Hid (eE sQ x y=((2,n,ByteArray.empty),0)):=aA (by have:=HV.o;rwa [iN (fun h=>h he)] at this);clear he HV;go_wp2;refine bR (.tuple #[.agg #[.int .i64 2,.int .i64 n,.string ⟨#[]⟩],.int .i64 0]) ?_;exact Aa
 .have d:(f != 0)=true:=bne_iff_ne.2 he;have HV2:Hid (eE sQ x y=(bD,f)):=aA (by have:=HV.o;rwa [iP he] at this);clear he HV;go_wp2;refine bR (.tuple #[.agg #[.int .i64 0,.int .i64 0,.string ⟨#[]⟩],.int .i64 f]) ?_;exact Aa
theorem Cx{ok:nP}(v:Value)(x y:V3)(w:World)(h:aH VR w ok v [x,y]):Calls prog 292 #[.func (.func 294) #[] #[],v] w (eA (eE sR x y) w):=by
 have HB0:=aA (aB w (.cells fV 55));have B0:=aA (aK w (.cells fV 55) _ rfl);have HA:=aA (tA 2 v [x,y] _ (h.on bH HB0.o));have k:=aA h;obtain⟨a,c,rfl,_⟩:=h.slice;obtain⟨b,off,rfl,m,g,i,_⟩:=iT h;clear h;unfold aO at HA;have e:[x,y].all (fun z=>decide (z.1=2))=(decide (x.1=2)&&decide (y.1=2)):=by simp
 rw[e] at HA;clear e;by_cases hk:x.1=2/\y.1=2
 case neg=>
  have e:(decide (x.1=2)&&decide (y.1=2))=false:=by
   exact Ya
  rw[e] at HA;have HV:Hid (eE sR x y=(bD,2)):=aA (iP (by
   by_cases h1:x.1=2
   .exact .inr (fun h2=>hk ⟨h1,h2⟩)
   .exact .inl h1))
  exact Yb
 rw[dX hk.1,dX hk.2,Bool.and_true] at HA;have j:=aA (fun w'=>Oo x.2.1 y.2.1 g.2.1 i.2.1 w');have HV:Hid (eE sR x y=if (sR x.2.1 y.2.1).2≠0 then (bD,(sR x.2.1 y.2.1).2) else ((2,(sR x.2.1 y.2.1).1,ByteArray.empty),0)):=aA (iN (fun h=>h.elim (fun h=>h hk.1) (fun h=>h hk.2)));generalize sR x.2.1 y.2.1=r at *;obtain⟨n,f⟩:=r;clear hk g i;go_enter func292,ntmps292;go_wp2_with fail;refine HA.o.mono ?_;rintro e w1 ⟨rfl,hb_⟩;have HB1:=qB HB0 hb_;have l:=aA (k.o.on bH HB1.o);obtain⟨o,q,s,t,A,B⟩:=mU l.o;replace B0:=qK B0 hb_;obtain⟨⟨B00,B01,B02⟩,_⟩:=cE B0.o;have zB0:=aD B0.o;clear hb_ HA;go_wp2;go_quiet ((go_at_call 294;exact IZ (j.o _)))
 by_cases he:f=0
 .have d:(f != 0)=false:=by rw[he];rfl
  have HV2:Hid (eE sR x y=((2,n,ByteArray.empty),0)):=aA (by have:=HV.o;rwa [iN (fun h=>h he)] at this);clear he HV;go_wp2;refine bR (.tuple #[.agg #[.int .i64 2,.int .i64 n,.string ⟨#[]⟩],.int .i64 0]) ?_;exact Aa
 .have d:(f != 0)=true:=bne_iff_ne.2 he;have HV2:Hid (eE sR x y=(bD,f)):=aA (by have:=HV.o;rwa [iP he] at this);clear he HV;go_wp2;refine bR (.tuple #[.agg #[.int .i64 0,.int .i64 0,.string ⟨#[]⟩],.int .i64 f]) ?_;exact Aa
theorem Cy{ok:nP}(v:Value)(x y:V3)(w:World)(h:aH VR w ok v [x,y]):Calls prog 292 #[.func (.func 295) #[] #[],v] w (eA (eE mD x y) w):=by
 have HB0:=aA (aB w (.cells fV 55));have B0:=aA (aK w (.cells fV 55) _ rfl);have HA:=aA (tA 2 v [x,y] _ (h.on bH HB0.o));have k:=aA h;obtain⟨a,c,rfl,_⟩:=h.slice;obtain⟨b,off,rfl,m,g,i,_⟩:=iT h;clear h;unfold aO at HA;have e:[x,y].all (fun z=>decide (z.1=2))=(decide (x.1=2)&&decide (y.1=2)):=by simp
 rw[e] at HA;clear e;by_cases hk:x.1=2/\y.1=2
 case neg=>
  have e:(decide (x.1=2)&&decide (y.1=2))=false:=by
   exact Ya
  rw[e] at HA;have HV:Hid (eE mD x y=(bD,2)):=aA (iP (by
   by_cases h1:x.1=2
   .exact .inr (fun h2=>hk ⟨h1,h2⟩)
   .exact .inl h1))
  exact Yb
 rw[dX hk.1,dX hk.2,Bool.and_true] at HA;have j:=aA (fun w'=>Ou x.2.1 y.2.1 g.2.1 i.2.1 w');have HV:Hid (eE mD x y=if (mD x.2.1 y.2.1).2≠0 then (bD,(mD x.2.1 y.2.1).2) else ((2,(mD x.2.1 y.2.1).1,ByteArray.empty),0)):=aA (iN (fun h=>h.elim (fun h=>h hk.1) (fun h=>h hk.2)));generalize mD x.2.1 y.2.1=r at *;obtain⟨n,f⟩:=r;clear hk g i;go_enter func292,ntmps292;go_wp2_with fail;refine HA.o.mono ?_;rintro e w1 ⟨rfl,hb_⟩;have HB1:=qB HB0 hb_;have l:=aA (k.o.on bH HB1.o);obtain⟨o,q,s,t,A,B⟩:=mU l.o;replace B0:=qK B0 hb_;obtain⟨⟨B00,B01,B02⟩,_⟩:=cE B0.o;have zB0:=aD B0.o;clear hb_ HA;go_wp2;go_quiet ((go_at_call 295;exact IZ (j.o _)))
 by_cases he:f=0
 .have d:(f != 0)=false:=by rw[he];rfl
  have HV2:Hid (eE mD x y=((2,n,ByteArray.empty),0)):=aA (by have:=HV.o;rwa [iN (fun h=>h he)] at this);clear he HV;go_wp2;refine bR (.tuple #[.agg #[.int .i64 2,.int .i64 n,.string ⟨#[]⟩],.int .i64 0]) ?_;exact Aa
 .have d:(f != 0)=true:=bne_iff_ne.2 he;have HV2:Hid (eE mD x y=(bD,f)):=aA (by have:=HV.o;rwa [iP he] at this);clear he HV;go_wp2;refine bR (.tuple #[.agg #[.int .i64 0,.int .i64 0,.string ⟨#[]⟩],.int .i64 f]) ?_;exact Aa
end Go.Proofs.YtbinmcabjnoliaaGreatDoor
