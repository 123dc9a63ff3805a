/- Lemmas. -/
import Derived.Test.YthcgdgkpgdjahaaGreatDoorMax
import Derived.Test.YthcgdgkpgdjahaaGreatDoorMar
namespace Go.Proofs.YthcgdgkpgdjahaaGreatDoor
open Go.RowKit
set_option linter.unusedVariables false
set_option linter.unusedSimpArgs false
set_option maxHeartbeats 16000000
open _root_.Go.Proofs.Tryz
set_option maxRecDepth 20000
theorem QDh{p:Prop}(h:p:=by
 simp only[aL,List.length_singleton,List.length_take,List.length_drop];omega):p:=h
def lP(l:List (ByteArray×V3))(name:bY)(v:V3):List (ByteArray×V3):=
 let i:=l.findIdx (fun f=>fK name f.1)
 match l[i]? with
 |none=>l++[(name,v)]
 |some f=>if f.1=name then l.set i (name,v) else l.take i++[(name,v)]++l.drop i
theorem lB(c:cB)(name:bY)(v:V3):mD c name v={c with aDT:=lP c.aDT name v}:=by
 unfold mD lP;dsimp only
 cases c.aDT[c.aDT.findIdx (fun f=>fK name f.1)]? with
 |none=>rfl
 |some f=>dsimp only;split<;>rfl
theorem Rg{l:List (ByteArray×V3)}{name:bY}{v:V3}{f:ByteArray×V3}(h:f∈lP l name v):f∈l\/f=(name,v):=by
 unfold lP at h;dsimp only at h;split at h
 .rcases List.mem_append.1 h with h|h
  .exact .inl h
  .exact .inr (by simpa using h)
 .split at h
  .rcases List.mem_or_eq_of_mem_set h with h|h
   .exact .inl h
   .exact .inr h
  .rw[List.append_assoc,List.mem_append,List.mem_append] at h
   rcases h with h|h|h
   .exact .inl (List.mem_of_mem_take h)
   .exact .inr (by simpa using h)
   .exact .inl (List.mem_of_mem_drop h)
theorem Kv{l:List (ByteArray×V3)}(h:kT Prod.fst l)(name:bY)(v:V3):kT Prod.fst (lP l name v):=by
 unfold lP;dsimp only;split
 .rename_i d;have hle:l.findIdx (fun f=>fK name f.1)<=l.length:=List.findIdx_le_length;have e:l.length<=l.findIdx (fun f=>fK name f.1):=List.getElem?_eq_none_iff.1 d;have:=AS h (name,v) l.length (by show l.findIdx (fun c=>fK name c.1)=_;omega) (fun c a=>by rw[List.getElem?_eq_none (lR _)] at a;cases a);rwa [List.take_length,List.drop_length,List.append_nil] at this
 .rename_i f b;split
  .rename_i he;exact LN h (fun c a=>by rw[b] at a;injection a with a;rw[<-a];exact he.symm)
  .rename_i he;exact AS h (name,v) _ rfl (fun c a=>by
    have:l[l.findIdx (fun f=>fK name f.1)]? =some c:=a;rw[b] at this;injection this with this;rw[<-this];exact he)
theorem ZR{l:List (ByteArray×V3)}(h:kT Prod.fst l){f:ByteArray×V3}(b:f∈l):l[l.findIdx (fun g=>fK f.1 g.1)]? =some f:=by
 obtain⟨k,a,rfl⟩:=List.getElem_of_mem b;have:=Ez (key:=Prod.fst) h a;rw[this];exact gE a
theorem Rh{l:List (ByteArray×V3)}(h:kT Prod.fst l)(name:bY)(v:V3)(a:l.length<=16)(c:16<=l.length->∃f∈l,f.1=name):(lP l name v).length<=16:=by
 by_cases h16:16<=l.length
 .obtain⟨f,b,rfl⟩:=c h16;have e:=ZR h b;unfold lP;dsimp only;rw[e];dsimp only;rw[iP rfl,List.length_set];exact a
 .unfold lP;dsimp only;split
  .rw[aL,List.length_singleton];omega
  .split
   .rw[List.length_set];exact a
   .rw[aL,aL,List.length_singleton,List.length_take,List.length_drop];omega
theorem Fe{c:cB}{name:bY}(h:eB c name≠aY):∃f∈c.aDT,f.1=name:=by
 unfold eB at h
 cases a:c.aDT.find? (fun f=>decide (f.1=name)) with
 |none=>rw[a] at h;exact absurd rfl h
 |some f=>exact⟨f,List.mem_of_find?_eq_some a,by simpa using List.find?_some a⟩
theorem SN{o:Op}(h:gW o=true)(a:o.aDN=3):o.val≠aY:=by
 unfold gW at h;split at h
 .cases h
 split at h
 .cases h
 unfold fX at h;dsimp only at h;rw[iN qo,iN qo,iP a] at h;simp only[Bool.and_eq_true,decide_eq_true_eq] at h;exact h.1.2
theorem wT{o:Op}(h:gW o=true)(a:o.aDN=8):0<o.aEa/\o.aEa<=1099511627776:=by
 unfold gW at h;split at h
 .cases h
 split at h
 .cases h
 unfold fX at h;dsimp only at h;rw[iN qo,iN qo,iN qo,iN qo,iN qo,iN qo,iP a] at h;simp only[Bool.and_eq_true,decide_eq_true_eq] at h;exact h.1
theorem AW{s:Sto}{o:Op}(h:gC s o=0):∃c,dU s o.aDU=some c/\¬(o.aDN=3/\16<=c.aDT.length/\eB c o.aD7=aY)/\¬(o.aDN≠2/\256<=c.log.length)/\¬((o.aDN=3/\c.aD9=oL)\/(o.aDN=4/\iB c.aD9 o.to_=false)):=by
 unfold gC at h
 cases a:dU s o.aDU with
 |none=>rw[a] at h;exact absurd (show (10:Int)=0 from h) qe
 |some c=>
  rw[a] at h;dsimp only at h;refine⟨c,rfl,?_⟩;split at h
  .cases h
  rename_i h1;split at h
  .cases h
  rename_i h2;split at h
  .cases h
  rename_i h3;exact⟨h1,h2,h3⟩
theorem AX{s:Sto}{o:Op}(h:dJ s o=0):gW o=true/\(o.aDN=1->(aV s o.aDU).2=false/\s.aDO.length<64)/\(o.aDN=2\/o.aDN=3\/o.aDN=4->gC s o=0)/\(o.aDN=5->iT s o=0)/\(o.aDN=6->¬(64<=s.aD1.length/\qL s o.aDU o.aD7=false))/\(o.aDN=8->s.aDX<=1099511627776 - o.aEa):=by
 have b:=oG h;unfold dJ at h;rw[b,iN qe] at h;refine⟨b,fun a=> ?_,fun a=> ?_,fun a=> ?_,fun a=> ?_,fun a=> ?_⟩
 .rw[iP a] at h;split at h
  .cases h
  rename_i h1;split at h
  .cases h
  exact⟨by simpa using h1,qo⟩
 .rw[iN qo,iP a] at h;exact h
 .rw[iN qo,iN qo,iP a] at h;exact h
 .rw[iN qo,iN qo,iN qo,iP a] at h;split at h
  .cases h
  rename_i h1;exact h1
 .rw[iN qo,iN qo,iN qo,iN qo,iP a] at h;split at h
  .cases h
  omega
theorem OF{s:Sto}{c:cB}(h:mF s.aDX c)(e:0<=s.aDX)(a b:bY):mF s.aDX (nA s c a b):=QJ h e (L:=[⟨s.aDX,a,b⟩]) (a:=a) (fun x d=>by rw[List.mem_singleton] at d;rw[d];exact⟨rfl,rfl⟩)
theorem LO{s:Sto}{i:Nat}{f:cB->cB}{d:cB}(h:d∈(eQ s i f).aDO):d∈s.aDO\/∃c,s.aDO[i]? =some c/\d=f c:=by
 unfold eQ at h;dsimp only at h;split at h
 .rename_i c a
  rcases List.mem_or_eq_of_mem_set h with h|h
  .exact .inl h
  .exact .inr ⟨c,a,h⟩
 .exact .inl h
theorem ZS{s:Sto}{i:Nat}{f:cB->cB}(h:kT cB.id s.aDO)(e:∀c,s.aDO[i]? =some c->(f c).id=c.id):kT cB.id (eQ s i f).aDO:=by
 unfold eQ;dsimp only;split
 .rename_i c b;exact LN h (fun d a=>by rw[b] at a;injection a with a;rw[<-a];exact e c b)
 .exact h
theorem AY(s:Sto)(i:Nat)(f:cB->cB):(eQ s i f).aDO.length=s.aDO.length:=by
 unfold eQ;dsimp only;split
 .exact List.length_set
 .rfl
def mG(s t:Sto):Prop:=s.aDO.length<=t.aDO.length/\∀c∈s.aDO,∃d∈t.aDO,iI c d
theorem mG.refl(s:Sto):mG s s:=⟨lR _,fun c a=>⟨c,a,iI.refl c⟩⟩
theorem Ri{s:Sto}{i:Nat}{f:cB->cB}(g:∀c,s.aDO[i]? =some c->iI c (f c)):mG s (eQ s i f):=by
 refine⟨by rw[AY];exact lR _,fun c d=> ?_⟩;obtain⟨k,b,rfl⟩:=List.getElem_of_mem d;unfold eQ;dsimp only;split
 .rename_i c a;by_cases e:i=k
  .subst e;rw[gE b] at a;injection a with a;subst a;exact⟨_,List.mem_set b _,g _ (gE b)⟩
  .exact⟨s.aDO[k],List.mem_iff_getElem.2 ⟨k,by rw[List.length_set];exact b,by rw[List.getElem_set_ne e]⟩,iI.refl _⟩
 .exact⟨_,d,iI.refl _⟩
theorem WC{s:Sto}{id:bY}{c d:cB}(h:dU s id=some c)(a:s.aDO[(aV s id).1]? =some d):d=c:=by
 obtain⟨k,f,b,e,_⟩:=Bu h;rw[b] at a;dsimp only at a;rw[gE f,e] at a;injection a with a;exact a.symm
theorem WE{s:Sto}(o:Op)(h:uO s):uO (cT s o)/\mG s (cT s o):=by
 unfold cT;by_cases h0:dJ s o=0
 case neg=>rw[iP h0];exact⟨h,mG.refl s⟩
 rw[iN (fun j=>j h0)];obtain⟨d,B,p,G,C,D⟩:=AX h0;dsimp only;by_cases h1:o.aDN=1
 .rw[iP h1];obtain⟨h2,h3⟩:=B h1;obtain⟨n,w⟩:=Rf h2;have E:mF s.aDX (nA s ⟨o.aDU,o.aD3,AD,[],[]⟩ o.aD3 (str "new")):=
   OF (c:=⟨o.aDU,o.aD3,AD,[],[]⟩) ⟨qs,List.Pairwise.nil,(fun f d=>by cases d),(fun x b=>by cases b),List.Pairwise.nil⟩ h.aDX.1 _ _
  have hle:(aV s o.aDU).1<=s.aDO.length:=by rw[n];exact List.findIdx_le_length
  refine⟨⟨h.aDX,h.aD0,?_,h.aD1,?_,?_,h.aEt⟩,?_,?_⟩
  .exact QDh
  .exact AS (key:=cB.id) h.aEs _ _ n.symm w
  .intro c a;simp only[List.append_assoc,List.mem_append,List.mem_singleton] at a
   rcases a with a|rfl|a
   .exact h.each c (List.mem_of_mem_take a)
   .exact E
   .exact h.each c (List.mem_of_mem_drop a)
  .exact QDh
  .intro c a;refine⟨c,?_,iI.refl c⟩;simp only[List.append_assoc,List.mem_append,List.mem_singleton];have:c∈s.aDO.take (aV s o.aDU).1++s.aDO.drop (aV s o.aDU).1:=by rw[List.take_append_drop];exact a
   rcases List.mem_append.1 this with h|h
   .exact .inl h
   .exact .inr (.inr h)
 rw[iN h1];have q:∀f:cB->cB,(∀c,s.aDO[(aV s o.aDU).1]? =some c->mF s.aDX c->mF s.aDX (f c)/\iI c (f c))->uO (eQ s (aV s o.aDU).1 f)/\mG s (eQ s (aV s o.aDU).1 f):=by
  intro f z;have hm:∀c,s.aDO[(aV s o.aDU).1]? =some c->mF s.aDX (f c)/\iI c (f c):=fun c a=>z c a (h.each c (List.mem_of_getElem? a))
  refine⟨⟨h.aDX,h.aD0,by rw[AY];exact h.few,h.aD1,ZS h.aEs (fun c a=>(hm c a).2.id),fun c a=> ?_,h.aEt⟩,Ri (fun c a=>(hm c a).2)⟩
  rcases LO a with a|⟨v,y,rfl⟩
  .exact h.each c a
  .exact(hm v y).1
 by_cases h3:o.aDN=3
 .rw[iP h3];obtain⟨c0,g,t,F,m⟩:=AW (p (.inr (.inl h3)));refine q _ fun c a hm=> ?_
  obtain rfl:=WC g a;rw[lB];have k:mF s.aDX {c with aDT:=lP c.aDT o.aD7 o.val}:=by
   refine⟨Rh hm.aEs _ _ hm.aDT (fun h16=>Fe (fun e=>t ⟨h3,h16,e⟩)),Kv hm.aEs _ _,fun f i=> ?_,hm.aEH,hm.order⟩
   rcases Rg i with i|rfl
   .exact hm.aEV f i
   .exact SN d h3
  exact⟨OF k h.aDX.1 _ _,⟨rfl,rfl,.inl rfl,List.prefix_append _ _,fun a=>absurd (.inl ⟨h3,a⟩) m⟩⟩
 rw[iN h3];by_cases h4:o.aDN=4
 .rw[iP h4];obtain⟨c0,g,t,F,m⟩:=AW (p (.inr (.inr h4)));refine q _ fun c a hm=> ?_
  obtain rfl:=WC g a;have k:mF s.aDX {c with aD9:=o.to_}:=⟨hm.aDT,hm.aEs,hm.aEV,hm.aEH,hm.order⟩;refine⟨OF k h.aDX.1 _ _,⟨rfl,rfl,.inr ?_,List.prefix_append _ _,fun _=>rfl⟩⟩;show iB c.aD9 o.to_=true
  cases A:iB c.aD9 o.to_
  .exact absurd (.inr ⟨h4,A⟩) m
  .rfl
 rw[iN h4];by_cases h5:o.aDN=5
 .rw[iP h5];refine⟨⟨h.aDX,h.aD0,h.few,h.aD1,h.aEs,h.each,?_⟩,lR _,fun c a=>⟨c,a,iI.refl c⟩⟩;dsimp only;split
  .rename_i r l;intro x b
   rcases List.mem_or_eq_of_mem_set b with b|rfl
   .exact h.aEt x b
   .exact h.aEt r (List.mem_of_getElem? l)
  .exact h.aEt
 rw[iN h5];by_cases h6:o.aDN=6
 .rw[iP h6];split
  .exact⟨h,mG.refl s⟩
  .rename_i j;have:=C h6;refine⟨⟨h.aDX,h.aD0,h.few,?_,h.aEs,h.each,h.aEt⟩,lR _,fun c a=>⟨c,a,iI.refl c⟩⟩;simp only[aL,List.length_singleton];have h7:qL s o.aDU o.aD7=false:=by simpa using j
   have h8:¬64<=s.aD1.length:=fun h=>this ⟨h,h7⟩
   omega
 rw[iN h6];by_cases h7:o.aDN=7
 .rw[iP h7];split
  .exact⟨⟨h.aDX,by have:=h.aD0;show 0<=s.aD0+1;omega,h.few,h.aD1,h.aEs,h.each,h.aEt⟩,lR _,fun c a=>⟨c,a,iI.refl c⟩⟩
  .exact⟨h,mG.refl s⟩
 rw[iN h7];by_cases h8:o.aDN=8
 .rw[iP h8];have h9:=D h8;have h10:=wT d h8;have h11:=h.aDX;refine⟨⟨⟨by show 0<=s.aDX+o.aEa;omega,by show s.aDX+o.aEa<=_;omega⟩,h.aD0,h.few,h.aD1,h.aEs,fun c a=>(h.each c a).more (by show s.aDX<=s.aDX+o.aEa;omega),fun r l=> ?_⟩,lR _,fun c a=>⟨c,a,iI.refl c⟩⟩;have:=h.aEt r l;exact⟨this.1,by show r.aDX<=s.aDX+o.aEa;omega⟩
 rw[iN h8];exact⟨h,mG.refl s⟩
theorem Ff{s t u:Sto}{k:Int}{a:bY}(h:mG s t)(f:jY k a t.aDO u.aDO):mG s u:=by
 refine⟨by rw[f.1];exact h.1,fun c g=> ?_⟩;obtain⟨d,j,b⟩:=h.2 c g;obtain⟨i,l,rfl⟩:=List.getElem_of_mem j;obtain⟨L,e,_⟩:=f.2 i _ (gE l);exact⟨_,List.mem_of_getElem? e,⟨b.id,b.aEg,b.aD9,b.log.trans (List.prefix_append _ _),b.shut⟩⟩
theorem ZT(g:Bool)(s:Sto)(o:Op)(r:bY):mG s (if g=true then gG s o r else s):=by
 split
 .exact⟨lR _,fun c a=>⟨c,a,iI.refl c⟩⟩
 .exact mG.refl s
theorem Fg{s t u:Sto}(h:t.aDO=s.aDO)(k:mG t u):mG s u:=by
 refine⟨by rw[<-h];exact k.1,fun c a=>k.2 c (by rw[h];exact a)⟩
theorem Kw(s:Sto)(o:Op)(h:AT s):AT (bO s o).1/\mG s (bO s o).1:=by
 have hw:=pU s o
 rcases a:bO s o with ⟨t,r,d,e⟩
 rw[a] at hw
 cases hw with
 |none _ _ he j _=>exact⟨h,mG.refl s⟩
 |some m l glass hidden v k i g c b f n=>
  dsimp only;have hm:=Ku h.1 glass o o.aEc;refine⟨⟨?_,b⟩,?_⟩
  .refine Fc ?_ o _ l;split
   .exact(WE o hm).1
   .exact hm
  .refine Ff ?_ (vA o _ l _);split
   .exact Fg (tN glass s o o.aEc) (WE o hm).2
   .exact ZT glass s o o.aEc
theorem aAi:AT jG:=⟨⟨⟨qe,qe⟩,qe,qe,qe,List.Pairwise.nil,(fun c a=>by cases a),(fun r b=>by cases b)⟩,rfl⟩
theorem bD.aE7{K:nP}{base:Nat}{w:World}{s:Sto}{L:List Mix}{ro:Option Value}{c:oD}{n f:Nat}{vr vn vo vt vu vk vb:Value}(h:bD K base w s L ro (.slice c n f) vr vn vo vt vu vk vb){k:Nat}(a:k<L.length)(o:L[k].2.1.isSome=true):
 ∃g la lc,c=some ⟨g,0,none⟩/\L[k].2.1=some (.slice la L[k].1.aDT.length lc)/\w.cell? ⟨g,k * 5+3,none⟩=some (.slice la L[k].1.aDT.length lc)/\base<=g/\g<w.heap.size/\aM lO 4 185 w base (fun _=>False) (.slice la L[k].1.aDT.length lc) L[k].1.aDT/\some g≠(Value.slice la L[k].1.aDT.length lc).ownBlock/\(∀i,w.frozen? ⟨g,i,none⟩=false)/\¬K g:=by
 obtain⟨g,r,e,h1,h2,hm,j,l⟩:=h.aDO.at (dP base K) a qe;obtain⟨z,A,rfl,p,q,t,d,p5⟩:=hm;obtain⟨v,b⟩:=Option.isSome_iff_exists.1 o;have m:=(kO h.aDO a).1 v b;rw[b] at d;obtain⟨rfl,q1,x,y⟩:=d;obtain⟨la,lc,rfl⟩:=q1.slice;subst e;exact⟨g,la,lc,rfl,b,j 3 _ rfl,h1,h2,q1,fun e=>m.2.1 g e.symm rfl,l,fun a=>(h.kept g a).2.1 rfl⟩
theorem EC{K:nP}{base:Nat}{w d c:World}{s:Sto}{L:List Mix}{ro:Option Value}{g n l:Nat}{vr vn vo vt vu vk vb:Value}{k:Nat}(a:bD K base d s L ro (.slice (some ⟨g,0,none⟩) n l) vr vn vo vt vu vk vb)(i:k<L.length)(t:Below w.heap.size w d){v v':Value}(j:L[k].2.1=some v){l':List qE}(q:l'.length<=1000000)(m:d.grownBy c v.ownBlock)(o:aM lO 4 185 c base (fun _=>False) v' l')(p:v'.ownBlock=v.ownBlock\/v'.ownBlock=some d.heap.size):
 Hid (bD K base (c.setCell ⟨g,k * 5+3,none⟩ v') {s with aDO:=s.aDO.set k {L[k].1 with aDT:=l'}} (L.set k ({L[k].1 with aDT:=l'},some v',L[k].2.2)) ro (.slice (some ⟨g,0,none⟩) n l) vr vn vo vt vu vk vb)/\Hid (aN (fun b=>b<base\/K b) w (c.setCell ⟨g,k * 5+3,none⟩ v')):=by
 have r:=(kO a.aDO i).1 v j;have x:=a.aDO.lt g rfl;exact⟨a.aDT i j m o (yW p (lR _)) q,((aJ t).trans ((cX m).mono (fun b _ f e=>f.elim (fun h=>qA ((r.1.lt b e.symm).1)) (fun h=>(a.aEi k i).1 b (cN.2 ⟨v,j,e.symm⟩) h)))).trans ((aI _).mono (fun b _ f e=>f.elim (fun h=>by omega) (fun h=>(a.kept b h).2.1 (by rw[e];rfl))))⟩
theorem Xe{w:World}{base:Nat}{ok:nP}{e:TypeId}{g n c k:Nat}{l:List qE}(h:aM lO 4 e w base ok (.slice (some ⟨g,0,none⟩) n c) l)(b:k<l.length){N:bY}{v:V3}(m:l[k].1=N)(d:cS v):
 aM lO 4 e (((w.setCell ⟨g,k * 4+1,none⟩ (.int .i64 v.1)).setCell ⟨g,k * 4+2,none⟩ (.int .i64 v.2.1)).setCell ⟨g,k * 4+3,none⟩ (.string v.2.2)) base ok (.slice (some ⟨g,0,none⟩) n c) (l.set k (N,v)):=by
 have h1:=aM.setAt bS (j:=1) (x:= .int .i64 v.1) (y:=(l[k].1,(v.1,l[k].2.2))) h b qe (by rintro r ⟨rfl,a⟩;exact⟨rfl,a.1,d.1,a.2.2⟩);have f:(l.set k (l[k].1,(v.1,l[k].2.2)))[k]'(by rw[List.length_set];exact b)=(l[k].1,(v.1,l[k].2.2)):=List.getElem_set_self _;have h2:=aM.setAt bS (j:=2) (x:= .int .i64 v.2.1) (y:=(l[k].1,(v.1,v.2.1,l[k].2.2.2))) h1 (by rw[List.length_set];exact b) qe (by rw[f];rintro r ⟨rfl,a⟩;exact⟨rfl,a.1,d.1,d.2.1,a.2.2.2⟩);rw[List.set_set] at h2;have i:(l.set k (l[k].1,(v.1,v.2.1,l[k].2.2.2)))[k]'(by rw[List.length_set];exact b)=(l[k].1,(v.1,v.2.1,l[k].2.2.2)):=List.getElem_set_self _;have h3:=aM.setAt bS (j:=3) (x:= .string v.2.2) (y:=(l[k].1,v)) h2 (by rw[List.length_set];exact b) qe (by rw[i];rintro r ⟨rfl,a⟩;exact⟨rfl,a.1,d⟩);rw[List.set_set,m] at h3;exact h3
theorem WG{w w':World}{base i:Nat}{v:Value}{l:List qE}{xs:List Value}{x:qE}(g:FF x)(d:i<=l.length)(h:w.ownsRow base 185 4 v l.length xs/\aW (lO w (fun b=>False/\b<w.heap.size/\some b≠v.ownBlock)) xs l){A:oD}{a:Nat}(c:w'.ownsRow base 185 4 (.slice A (l.length+1) a) (l.length+1) (xs.take (i * 4)++uJ x++xs.drop (i * 4))):
 aM lO 4 185 w' base (fun _=>False) (.slice A (l.length+1) a) (l.take i++[x]++l.drop i):=by
 have e:(l.take i++[x]++l.drop i).length=l.length+1:=by simp only[aL,List.length_take,List.length_drop,List.length_cons,List.length_nil];omega
 refine⟨_,by rw[e];exact c,?_⟩;have h2:aW (lO w' (fun b=>False/\b<w'.heap.size/\some b≠(Value.slice A (l.length+1) a).ownBlock)) xs l:=h.2;have h3:=h2.split (fun r x f=>bS.len f) i d;exact(h3.1.append (aW.one ⟨rfl,g⟩)).append h3.2
theorem Xf{l:List (ByteArray×V3)}{N:bY}{v:V3}(h:¬l.findIdx (fun f=>fK N f.1)<l.length):lP l N v=l++[(N,v)]:=by
 unfold lP;dsimp only;rw[List.getElem?_eq_none qo]
theorem aAj{l:List (ByteArray×V3)}{N:bY}{v:V3}{f:Nat}(a:f=l.findIdx (fun f=>fK N f.1))(h:f<l.length):lP l N v=if l[f].1=N then l.set f (N,v) else l.take f++[(N,v)]++l.drop f:=by
 unfold lP;dsimp only;rw[<-a,gE h]
def Kx(K:nP)(base:Nat)(s:Sto)(L:List Mix)(ro:Option Value)(vc vr vn vo vt vu vk vb:Value)(k:Nat)(c:cB)(o:Option Value)(w:World)(e:Ending)(w':World):Prop:=e=.returned (.tuple #[])/\∃u,bD K base w' {s with aDO:=s.aDO.set k c} (L.set k (c,some u,o)) ro vc vr vn vo vt vu vk vb/\aN (fun b=>b<base\/K b) w w'
theorem Ky{K:nP}{base:Nat}(s:Sto)(L:List Mix)(ro:Option Value)(ca:oD)(n cc:Nat)(vr vn vo vt vu vk vb:Value)(k:Nat)(w:World)(hO:bD K base w s L ro (.slice ca n cc) vr vn vo vt vu vk vb)(B:k<L.length)(hs:L[k].2.1.isSome=true)(N:bY)(hN:N.size<=cQ)(v:V3)(hv:cS v)(hl:L[k].1.aDT.length<=900000)(g:Nat)(b1:ca=some ⟨g,0,none⟩):
 Calls prog 92 #[.pointer (some ⟨g,k * 5,none⟩),.string N,dC v] w (Kx K base s L ro (.slice ca n cc) vr vn vo vt vu vk vb k (mD L[k].1 N v) L[k].2.2 w):=by
 obtain⟨g',fa,fc,W,bl,G,b8,b3,q,bm,X,b7⟩:=hO.aE7 B hs;subst b1;injection W with W;injection W with W _ _;subst W;obtain⟨t,ar⟩:∃O:Obj,O=.cells #[.string N] 9:=⟨_,rfl⟩;obtain⟨z,au⟩:∃O:Obj,O=.cells #[.int .i64 v.1,.int .i64 v.2.1,.string v.2.2] 30:=⟨_,rfl⟩;obtain⟨W0,R⟩:=xE ((w.alloc t).alloc z);have af:Below w.heap.size w W0:=by rw[R];exact aC (aB _ _) (aB _ _)
 have h1:W0.heap[w.heap.size]? =some t:=by rw[R];exact aE (aK _ _ _ rfl) (aB _ _)
 have h2:W0.heap[w.heap.size+1]? =some z:=by rw[R];exact aK _ _ _ qs
 obtain⟨A,ag⟩:∃A,w.heap[g]? =some A:=⟨_,Array.getElem?_eq_getElem b3⟩;have C:Hid (∀(w':World),(w'.heap[g]? =some A/\w'.heap[w.heap.size]? =some t/\w'.heap[w.heap.size+1]? =some z)->w'.cell? ⟨g,k * 5+3,none⟩=some (.slice fa L[k].1.aDT.length fc)/\w'.frozen? ⟨g,k * 5+3,none⟩=false/\g<w'.heap.size/\w'.cell? ⟨w.heap.size,0,none⟩=some (.string N)/\w.heap.size<w'.heap.size/\w'.cell? ⟨w.heap.size+1,0,none⟩=some (.int .i64 v.1)/\w'.cell? ⟨w.heap.size+1,1,none⟩=some (.int .i64 v.2.1)/\w'.cell? ⟨w.heap.size+1,2,none⟩=some (.string v.2.2)/\w.heap.size+1<w'.heap.size):=aA (fun w' B=>by
  have h2:=B.2.1;have h3:=B.2.2;rw[ar] at h2;rw[au] at h3;exact⟨(World.cell?_of_block (a:=⟨g,k * 5+3,none⟩) (B.1.trans ag.symm)).trans G,(World.frozen?_of_block (a:=⟨g,k * 5+3,none⟩) (B.1.trans ag.symm)).trans (X _),aD B.1,aQ h2 0 _ rfl,aD h2,aQ h3 0 _ rfl,aQ h3 1 _ rfl,aQ h3 2 _ rfl,aD h3⟩)
 have H:Hid (W0.heap[g]? =some A/\W0.heap[w.heap.size]? =some t/\W0.heap[w.heap.size+1]? =some z):=aA ⟨aE ag af,h1,h2⟩;obtain⟨f,hf⟩:=xE (L[k].1.aDT.findIdx (fun x=>fK N x.1));have S:=aA (UU _ L[k].1.aDT N w.heap.size W0 ((q.on bS af).aEK bS qo) ⟨(C.o _ H.o).2.2.2.1,aD h1⟩);have bc:Hid (fA (fun x=>fK N x.1) L[k].1.aDT=if f<L[k].1.aDT.length then (f:Int) else -1):=aA (by unfold fA;rw[<-hf]);obtain⟨ab,ak,bb,Z,a8,ay,be,ao⟩:=TH hO q bm bl hf af hN hv;have aa:Hid (some w.heap.size≠(Value.slice fa L[k].1.aDT.length fc).ownBlock/\some (w.heap.size+1)≠(Value.slice fa L[k].1.aDT.length fc).ownBlock):=aA ⟨fun e=>qA ((q.lt _ e.symm).2),fun e=>qA ((q.lt _ e.symm).2)⟩;unfold aP at S;rw[lB];unfold dC;rw[ar,au] at R;have bg:=aA R;have bk:=hO.size;generalize fA (fun x=>fK N x.1) L[k].1.aDT=ix at *;generalize hx:L[k].1=x at *;have ad:=aA hx;clear hf R af h1 h2 ag hO ar au G X q bm bl hN hv hx;obtain⟨c0,c1,j,l,m,v0,v1,v2,o⟩:=C.o _ H.o;by_cases Q:f<x.aDT.length
 .have h1:ix=(f:Int):=by rw[bc.o,iP Q]
  subst h1;have i0:¬((f:Int)<0):=qo;have i1:(f:Int)<(x.aDT.length:Int):=qo;go_enter func92,ntmps92;go_upto_region 1 with (fail)
  rw[<-bg.o];go_wp2_with fail;refine S.o.mono ?_;rintro e w1 ⟨rfl,F⟩;have D:=qB ay F;have i:Hid (w1.heap[g]? =some A/\w1.heap[w.heap.size]? =some t/\w1.heap[w.heap.size+1]? =some z):=aA ⟨aE H.o.1 F,aE H.o.2.1 F,aE H.o.2.2 F⟩;clear c0 c1 j l m v0 v1 v2 o F S;obtain⟨c0,c1,j,l,m,v0,v1,v2,o⟩:=C.o _ i.o;obtain⟨p,r,b2,b9,b5,⟨rfl,b4⟩,G,X⟩:=(ak.o.on bS D.o).at bS Q qe;subst b2;obtain⟨y,hy⟩:=xE (x.aDT[f]);rw[<-hy] at G b4;obtain⟨U,av⟩:∃U,w1.heap[p]? =some U:=⟨_,Array.getElem?_eq_getElem b5⟩;have a1:Hid (∀(w':World),(w'.heap[g]? =some A/\w'.heap[w.heap.size]? =some t/\w'.heap[w.heap.size+1]? =some z/\w'.heap[p]? =some U)->w'.cell? ⟨p,f * 4,none⟩=some (.string y.1)/\p<w'.heap.size):=aA (fun w' B=>by
   have h0:=G 0 _ rfl;rw[Nat.add_zero] at h0;exact⟨(World.cell?_of_block (a:=⟨p,f * 4,none⟩) (B.2.2.2.trans av.symm)).trans h0,aD B.2.2.2⟩)
  have bx:=aA hy;have bw:Hid (w1.cell? ⟨p,f * 4+1,none⟩=some (.int .i64 y.2.1)/\w1.cell? ⟨p,f * 4+1+1,none⟩=some (.int .i64 y.2.2.1)/\w1.cell? ⟨p,f * 4+1+2,none⟩=some (.string y.2.2.2)):=aA ⟨G 1 _ rfl,G 2 _ rfl,G 3 _ rfl⟩;have aj:=aA X;have a7:Hid (w1.heap[g]? =some A/\w1.heap[w.heap.size]? =some t/\w1.heap[w.heap.size+1]? =some z/\w1.heap[p]? =some U):=aA ⟨i.o.1,i.o.2.1,i.o.2.2,av⟩;have bf:Hid (lP x.aDT N v=if y.1=N then x.aDT.set f (N,v) else x.aDT.take f++[(N,v)]++x.aDT.drop f):=aA (by rw[hy];exact aAj a8.o Q);clear hy G X av;obtain⟨y0,yz⟩:=a1.o _ a7.o;go_upto_region 5 with (fail)
  refine cD 10 [(0,false),(1,false),(2,false),(3,false),(4,false),(5,false),(6,false),(7,false),(8,false),(9,false)] [(10,true)] (fun w'=>w'.heap[g]? =some A/\w'.heap[w.heap.size]? =some t/\w'.heap[w.heap.size+1]? =some z/\w'.heap[p]? =some U) (by kernel_rfl) (by kernel_rfl) a7.o ?_;simp only[List.cons_append,List.nil_append]
  repeat (refine dG rfl (fun K c=> ?_);unfold rd;go_simp;refine c _ (fun Y h1=> ?_) ?_;(· clear c K c0 c1 j l m v0 v1 v2 o y0 yz;obtain⟨c0,c1,j,l,m,v0,v1,v2,o⟩:=C.o _ ⟨h1.1,h1.2.1,h1.2.2.1⟩;obtain⟨y0,yz⟩:=a1.o _ h1;unfold rd;go_simp);clear c K)
  refine bJ rfl (fun K1 d=> ?_);unfold mv;go_simp;refine d _ _ (fun h=>absurd h qe) ?_;clear d K1;unfold cJ;have ba:=aA (ak.o.on bS D.o);have a6:Hid ((y.1.toList==N.toList)=decide (y.1=N)):=aA (by rw[Bool.eq_iff_iff,bQ,decide_eq_true_eq];exact⟨FT,fun h=>by rw[h]⟩);generalize (y.1.toList==N.toList)=E at *
  cases E
  rotate_left
  .have ae:Hid (y.1=N):=aA (of_decide_eq_true a6.o.symm);clear y0;go_upto_region 6 with (fail)
   have HZ:Hid (w1.drew.heap[g]? =some A/\w1.drew.heap[w.heap.size]? =some t/\w1.drew.heap[w.heap.size+1]? =some z):=aA i.o;refine cD 8 [(0,false),(1,false),(2,false),(3,false),(4,false),(5,false),(6,false),(7,false)] [(8,true)] (fun w'=>w'.heap[g]? =some A/\w'.heap[w.heap.size]? =some t/\w'.heap[w.heap.size+1]? =some z) (by kernel_rfl) (by kernel_rfl) i.o ?_;simp only[List.cons_append,List.nil_append]
   repeat (refine dG rfl (fun K c=> ?_);unfold rd;go_simp;refine c _ (fun Y h1=> ?_) ?_;(· clear c K c0 c1 j l m v0 v1 v2 o;obtain⟨c0,c1,j,l,m,v0,v1,v2,o⟩:=C.o _ h1;unfold rd;go_simp);clear c K)
   have z1:=aj.o (f * 4+1);have z2:=aj.o (f * 4+1+1);have z3:=aj.o (f * 4+1+2);obtain⟨y1,y2,y3⟩:=bw.o;refine bJ rfl (fun K1 d=> ?_);unfold mv;go_simp;refine d _ _ (fun h=>absurd h qe) ?_;clear d K1;unfold cJ;go_wp2;go_returns;have b6:x.aDT[f].1=N:=bx.o▸ae.o;have I:=Xe ba.o Q b6 ao.o;have bq:aN (fun b=>b≠p) w1 (((w1.setCell ⟨p,f * 4+1,none⟩ (.int .i64 v.1)).setCell ⟨p,f * 4+2,none⟩ (.int .i64 v.2.1)).setCell ⟨p,f * 4+3,none⟩ (.string v.2.2)):=((aI _).trans (aI _)).trans (aI _);have b0:=(ab.o.on D.o).aD7 B Z.o (bq.mono (fun b _ hb e=>hb (by rw[e];rfl))) I (by rw[List.length_set,ad.o]);have bz:¬K p:=(ab.o.aEi k B).1 p (cN.2 ⟨_,Z.o,rfl⟩);have V:({x with aDT:=lP x.aDT N v}:cB)={L[k].1 with aDT:=x.aDT.set f (N,v)}:=by rw[bf.o,iP ae.o,<-ad.o]
   rw[V];exact⟨rfl,_,b0.on (Below.refl _ _).drew.drew,((aJ D.o).trans (bq.mono (fun b _ hb e=>hb.elim (fun h=>by omega) (fun h=>bz (e▸h))))).trans (aJ (Below.refl _ _).drew.drew)⟩
  .have ae:Hid (¬y.1=N):=aA (of_decide_eq_false a6.o.symm);clear y0;go_upto_region 2 with (fail)
   trace_state
   refine cD 13 [(0,false),(1,false),(2,false),(3,false),(4,false),(5,false),(6,false),(7,false),(8,false),(9,true),(10,true),(11,false),(12,false)] [(13,true)] (fun w'=>w'.heap[g]? =some A/\w'.heap[w.heap.size]? =some t/\w'.heap[w.heap.size+1]? =some z) (by kernel_rfl) (by kernel_rfl) i.o ?_;simp only[List.cons_append,List.nil_append]
   repeat (refine dG rfl (fun K c=> ?_);unfold rd;go_simp;refine c _ (fun Y h1=> ?_) ?_;(· clear c K c0 c1 j l m v0 v1 v2 o;obtain⟨c0,c1,j,l,m,v0,v1,v2,o⟩:=C.o _ h1;unfold rd;go_simp);clear c K)
   refine bJ rfl (fun K1 d=> ?_);unfold mv;go_simp;refine d _ _ (fun _=>⟨aE i.o.1 (aB _ _).drew.drew,aE i.o.2.1 (aB _ _).drew.drew,aE i.o.2.2 (aB _ _).drew.drew⟩) ?_;clear d K1 c0 c1 j l m v0 v1 v2 o;obtain⟨P,ah⟩:=xE ((w1.alloc (.cells #[.string N,.int .i64 v.1,.int .i64 v.2.1,.string v.2.2] 185)).drew.drew);have J:Below w1.heap.size w1 P:=by rw[ah];exact(aB _ _).drew.drew
   have bo:P.heap[w1.heap.size]? =some (.cells (uJ (N,v)).toArray 185 (0,0)):=by rw[ah];exact aK _ _ _ rfl
   have aq:Hid (P.heap[g]? =some A/\P.heap[w.heap.size]? =some t/\P.heap[w.heap.size+1]? =some z):=aA ⟨aE i.o.1 J,aE i.o.2.1 J,aE i.o.2.2 J⟩;obtain⟨xs,ax,aw⟩:=ba.o.on bS J;have br:=aA (SK P base (some ⟨p,0,none⟩) x.aDT.length fc f xs (uJ (N,v)) w1.heap.size 1 185 ax qo qo (lT bk (aC D.o J).size) bo rfl (by intro u hu;simp only[uJ,List.mem_cons,List.not_mem_nil,or_false] at hu;rcases hu with rfl|rfl|rfl|rfl<;>rfl) (aW.aEl (fun r x hr=>bS.one hr) aw) (fun e=>by have e2:some p=some w1.heap.size:=e;injection e2 with e3;omega));obtain⟨bs,az,bu⟩:=aZ (⟨ax,aw⟩:_/\_) (aC D.o J) ah;rw[<-bu.o];clear ah J bo ax aw;refine bJ rfl (fun K1 d=> ?_);unfold mv;go_simp;refine br.o.mono ?_;rintro e M ⟨A',c',rfl,bp,q,bh⟩;have I:=WG (x:=(N,v)) ⟨be.o,ao.o⟩ qo bs.o bp;have T:Hid (M.heap[g]? =some A/\M.heap[w.heap.size]? =some t/\M.heap[w.heap.size+1]? =some z):=aA ⟨gP aq.o.1 (Below.refl _ _) q bb.o,gP aq.o.2.1 (Below.refl _ _) q aa.o.1,gP aq.o.2.2 (Below.refl _ _) q aa.o.2⟩;have ai:(x.aDT.take f++[(N,v)]++x.aDT.drop f).length<=1000000:=by simp only[aL,List.length_take,List.length_drop,List.length_cons,List.length_nil];omega
   obtain⟨al,an⟩:=EC (ab.o.on az.o) B az.o Z.o ai q I bh;refine d _ _ (fun _=>T.o) ?_;clear d K1 I q bh bp ai;obtain⟨c0,c1,j,l,m,v0,v1,v2,o⟩:=C.o _ T.o
   repeat (refine dG rfl (fun K c=> ?_);unfold rd;go_simp;refine c _ (fun Y h1=> ?_) ?_;(· clear c K c0 c1 j l m v0 v1 v2 o;obtain⟨c0,c1,j,l,m,v0,v1,v2,o⟩:=C.o _ h1;unfold rd;go_simp);clear c K)
   refine bJ rfl (fun K1 d=> ?_);unfold mv;go_simp;refine d _ _ (fun h=>absurd h qe) ?_;clear d K1 c0 c1 j l m v0 v1 v2 o;unfold cJ;go_wp2;go_returns;have V:({x with aDT:=lP x.aDT N v}:cB)={L[k].1 with aDT:=x.aDT.take f++[(N,v)]++x.aDT.drop f}:=by rw[bf.o,iN ae.o,<-ad.o]
   rw[V];exact⟨rfl,_,al.o,an.o⟩
 .have h1:ix= -1:=by rw[bc.o,iN Q]
  subst h1;go_enter func92,ntmps92;go_upto_region 1 with (fail)
  rw[<-bg.o];go_wp2_with fail;refine S.o.mono ?_;rintro e w1 ⟨rfl,F⟩;have D:=qB ay F;have i:Hid (w1.heap[g]? =some A/\w1.heap[w.heap.size]? =some t/\w1.heap[w.heap.size+1]? =some z):=aA ⟨aE H.o.1 F,aE H.o.2.1 F,aE H.o.2.2 F⟩;clear c0 c1 j l m v0 v1 v2 o F S;obtain⟨c0,c1,j,l,m,v0,v1,v2,o⟩:=C.o _ i.o;have bt:Hid (lP x.aDT N v=x.aDT++[(N,v)]):=aA (Xf (by rw[<-a8.o];exact Q));go_upto_region 4 with (fail)
  refine cD 12 [(0,false),(1,false),(2,false),(3,false),(4,false),(5,false),(6,false),(7,false),(8,true),(9,true),(10,false),(11,false)] [(12,true)] (fun w'=>w'.heap[g]? =some A/\w'.heap[w.heap.size]? =some t/\w'.heap[w.heap.size+1]? =some z) (by kernel_rfl) (by kernel_rfl) i.o ?_;simp only[List.cons_append,List.nil_append]
  repeat (refine dG rfl (fun K c=> ?_);unfold rd;go_simp;refine c _ (fun Y h1=> ?_) ?_;(· clear c K c0 c1 j l m v0 v1 v2 o;obtain⟨c0,c1,j,l,m,v0,v1,v2,o⟩:=C.o _ h1;unfold rd;go_simp);clear c K)
  refine bJ rfl (fun K1 d=> ?_);unfold mv;go_simp;refine d _ _ (fun _=>⟨aE i.o.1 (aB _ _).drew,aE i.o.2.1 (aB _ _).drew,aE i.o.2.2 (aB _ _).drew⟩) ?_;clear d K1;refine bJ rfl (fun K1 d=> ?_);unfold mv;refine jA (base:=base) xI bS rfl (.tmp 33) (.tmp 37) rfl _ x.aDT rfl (ak.o.on bS (aC D.o (aB _ _).drew)) w1.heap.size 1 _ _ _ (N,v) rfl (aK _ _ _ rfl) ⟨rfl,be.o,ao.o⟩ qo qe (lT bk (aC D.o (aB _ _).drew).size) ?_;intro l' bn A' c' M I q bj;have T:Hid (M.heap[g]? =some A/\M.heap[w.heap.size]? =some t/\M.heap[w.heap.size+1]? =some z):=aA ⟨gP i.o.1 (aB _ _).drew q bb.o,gP i.o.2.1 (aB _ _).drew q aa.o.1,gP i.o.2.2 (aB _ _).drew q aa.o.2⟩;have bd:=aA bn.o;have ai:l'.length<=1000000:=by rw[bd.o,aL];simp only[List.length_cons,List.length_nil];omega
  obtain⟨al,an⟩:=EC (ab.o.on (aC D.o (aB _ _).drew)) B (aC D.o (aB _ _).drew) Z.o ai q I bj;refine d _ _ (fun _=>T.o) ?_;clear d K1 I q bj bn c0 c1 j l m v0 v1 v2 o;obtain⟨c0,c1,j,l,m,v0,v1,v2,o⟩:=C.o _ T.o
  repeat (refine dG rfl (fun K c=> ?_);unfold rd;go_simp;refine c _ (fun Y h1=> ?_) ?_;(· clear c K c0 c1 j l m v0 v1 v2 o;obtain⟨c0,c1,j,l,m,v0,v1,v2,o⟩:=C.o _ h1;unfold rd;go_simp);clear c K)
  refine bJ rfl (fun K1 d=> ?_);unfold mv;go_simp;refine d _ _ (fun h=>absurd h qe) ?_;clear d K1 c0 c1 j l m v0 v1 v2 o;unfold cJ;go_wp2;go_returns;have V:({x with aDT:=lP x.aDT N v}:cB)={L[k].1 with aDT:=l'}:=by rw[bt.o,<-bd.o,<-ad.o]
  rw[V];exact⟨rfl,_,al.o,an.o⟩
end Go.Proofs.YthcgdgkpgdjahaaGreatDoor
