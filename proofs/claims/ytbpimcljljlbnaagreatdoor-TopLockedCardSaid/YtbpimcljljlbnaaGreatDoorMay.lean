/- Lemmas. -/
import Derived.Test.YtbpimcljljlbnaaGreatDoorMax
import Derived.Test.YtbpimcljljlbnaaGreatDoorMas
namespace Go.Proofs.YtbpimcljljlbnaaGreatDoor
open Go.RowKit
set_option linter.unusedVariables false
set_option linter.unusedSimpArgs false
set_option maxHeartbeats 16000000
open _root_.Go.Proofs.Tryz
set_option maxRecDepth 20000
theorem QDi{p:Prop}(h:p:=by
 rintro⟨h1,h2,h3⟩;exact⟨qo,qo,fun c hc=>by have:=h3 c hc;simpa using this⟩):p:=h
theorem Jc(a:bY):¬a.toList<a.toList:=List.lt_irrefl _
theorem UX{a b c:bY}(h:a.toList<b.toList)(k:b.toList<c.toList):a.toList<c.toList:=List.lt_trans h k
theorem FA{a b:bY}(h:a.toList=b.toList):a=b:=by
 rw[Lib.toList_data,Lib.toList_data] at h;exact ByteArray.ext (Array.ext' h)
theorem Ao{a b:bY}:gU a b=true↔¬b.toList<a.toList:=by unfold gU;exact decide_eq_true_iff
theorem Pr(a:bY):gU a a=true:=Ao.2 (Jc a)
theorem Jd{a b:bY}:gU a b=false↔b.toList<a.toList:=by unfold gU;simp
theorem Ps{a b:bY}(h:gU a b=true)(c:a≠b):a.toList<b.toList:=by
 rcases Decidable.em (a.toList<b.toList) with h1|h1
 .exact h1
 .exact absurd (FA (List.le_antisymm (Ao.1 h) h1)) c
def kJ{α:Type}(key:α->ByteArray)(l:List α):Prop:=l.Pairwise (fun a b=>(key a).toList<(key b).toList)
theorem Ds{α:Type}{key:α->ByteArray}{l:List α}(h:kJ key l){k:Nat}(a:k<l.length):l.findIdx (fun c=>gU (key l[k]) (key c))=k:=by
 rw[List.findIdx_eq a];refine⟨Pr _,fun j hj=> ?_⟩;exact Jd.2 (List.pairwise_iff_getElem.1 h j k qo a hj)
theorem AJ{α:Type}{key:α->ByteArray}{l:List α}(h:kJ key l)(x:α)(i:Nat)(g:l.findIdx (fun c=>gU (key x) (key c))=i)(q:∀c,l[i]? =some c->key c≠key x):kJ key (l.take i++[x]++l.drop i):=by
 have hle:i<=l.length:=g▸List.findIdx_le_length;have n:∀y∈l.take i,(key y).toList<(key x).toList:=by
  intro y d;obtain⟨j,hj,rfl⟩:=List.getElem_of_mem d;rw[List.length_take] at hj;rw[List.getElem_take];have:=List.not_of_lt_findIdx (p:=fun c=>gU (key x) (key c)) (xs:=l) (i:=j) qo;exact Jd.1 (by simpa using this)
 have m:∀y∈l.drop i,(key x).toList<(key y).toList:=by
  rcases Nat.lt_or_ge i l.length with k|o
  .have h1:gU (key x) (key l[i])=true:=by
    have:=List.findIdx_getElem (p:=fun c=>gU (key x) (key c)) (xs:=l) (w:=by rw[g];exact k);simpa [g] using this
   have h2:(key x).toList<(key l[i]).toList:=Ps h1 (fun e=>q l[i] (gE k) e.symm);intro y d;obtain⟨j,hj,rfl⟩:=List.getElem_of_mem d;rw[List.length_drop] at hj;rw[List.getElem_drop]
   rcases Nat.eq_zero_or_pos j with rfl|hp
   .exact h2
   .exact UX h2 (List.pairwise_iff_getElem.1 h i (i+j) k qo qo)
  .rw[List.drop_of_length_le o];intro y d;cases d
 unfold kJ;rw[List.append_assoc,List.pairwise_append];refine⟨h.sublist (List.take_sublist _ _),?_,?_⟩
 .rw[List.singleton_append,List.pairwise_cons];exact⟨m,h.sublist (List.drop_sublist _ _)⟩
 .intro a ha b f;rw[List.singleton_append,List.mem_cons] at f
  rcases f with rfl|f
  .exact n a ha
  .exact UX (n a ha) (m b f)
theorem GF{α:Type}{key:α->ByteArray}{l m:List α}(h:kJ key l)(he:m.map key=l.map key):kJ key m:=by
 have h1:(l.map key).Pairwise (fun a b:ByteArray=>a.toList<b.toList):=List.pairwise_map.2 h;rw[<-he] at h1;exact(List.pairwise_map (f:=key) (R:=fun a b:ByteArray=>a.toList<b.toList)).1 h1
theorem KQ{α:Type}{key:α->ByteArray}{l:List α}(h:kJ key l){i:Nat}{x:α}(b:∀c,l[i]? =some c->key x=key c):kJ key (l.set i x):=by
 refine GF h ?_;refine List.ext_getElem? fun j=> ?_
 rw[List.getElem?_map,List.getElem?_map,List.getElem?_set];by_cases e:i=j
 .subst e;rw[iP rfl];by_cases a:i<l.length
  .rw[iP a,gE a];exact congrArg some (b _ (gE a))
  .rw[iN a,List.getElem?_eq_none qo]
 .rw[iN e]
theorem Vr{s:Sto}{id:bY}(h:(aW s id).2=true):∃(k:Nat) (d:k<s.aDc.length),aW s id=(k,true)/\s.aDc[k].id=id/\eS s id=some s.aDc[k]/\s.aDc.findIdx (fun c=>gU id c.id)=k:=by
 unfold aW at h;dsimp only at h;by_cases a:s.aDc.findIdx (fun c=>gU id c.id)<s.aDc.length
 .rw[iP a,gE a] at h;have h2:s.aDc[s.aDc.findIdx (fun c=>gU id c.id)].id=id:=by simpa using h
  have b:aW s id=(s.aDc.findIdx (fun c=>gU id c.id),true):=by
   unfold aW;dsimp only;rw[iP a,gE a];simp[h2]
  refine⟨_,a,b,h2,?_,rfl⟩;unfold eS;rw[b];exact gE a
 .rw[iN a] at h;cases h
theorem Pt{s:Sto}{id:bY}(h:(aW s id).2=false):(aW s id).1=s.aDc.findIdx (fun c=>gU id c.id)/\∀c,s.aDc[(aW s id).1]? =some c->c.id≠id:=by
 unfold aW at h ⊢;dsimp only at h ⊢;by_cases b:s.aDc.findIdx (fun c=>gU id c.id)<s.aDc.length
 .rw[iP b] at h ⊢;refine⟨rfl,fun c a e=> ?_⟩;dsimp only at a;rw[a] at h;simp[e] at h
 .rw[iN b] at h ⊢;have hle:s.aDc.findIdx (fun c=>gU id c.id)<=s.aDc.length:=List.findIdx_le_length;refine⟨by dsimp only;omega,fun c a=> ?_⟩;dsimp only at a;rw[List.getElem?_eq_none (lR _)] at a
  cases a
theorem Aq{s:Sto}{id:bY}{c:cF}(h:eS s id=some c):∃(k:Nat) (b:k<s.aDc.length),aW s id=(k,true)/\s.aDc[k]=c/\c.id=id/\s.aDc.findIdx (fun c=>gU id c.id)=k:=by
 unfold eS at h;by_cases a:(aW s id).2=true
 .obtain⟨k,b,h1,h2,h3,h4⟩:=Vr a;rw[iP a,h1] at h;dsimp only at h;rw[gE b] at h;injection h with h;exact⟨k,b,h1,h,h▸h2,h4⟩
 .rw[iN a] at h;cases h
structure lW (tick:Int) (c:cF):Prop where
 aDi:c.aDi.length<=16
 aDR:kJ Prod.fst c.aDi
 aEk:∀f∈c.aDi,f.2≠bD
 aD6:∀h∈c.log,0<=h.aDm/\h.aDm<=tick
 order:c.log.Pairwise (fun a b=>a.aDm<=b.aDm)
structure uF (s:Sto):Prop where
 aDm:0<=s.aDm/\s.aDm<=1099511627776
 aDq:0<=s.aDq
 few:s.aDc.length<=64
 aDp:s.aDp.length<=64
 aDR:kJ cF.id s.aDc
 each:∀c∈s.aDc,lW s.aDm c
 aDS:∀r∈s.aDf,0<=r.aDm/\r.aDm<=s.aDm
def AK(s:Sto):Prop:=uF s/\qN s=false
theorem lW.more{t b:Int}{c:cF}(h:lW t c)(d:t<=b):lW b c:=⟨h.aDi,h.aDR,h.aEk,fun x a=>⟨(h.aD6 x a).1,qA ((h.aD6 x a).2)⟩,h.order⟩
theorem AM{s:Sto}:qN s=false↔s.aDf.length<=256/\s.aDk.length<=256/\∀c∈s.aDc,c.log.length<=256:=by
 unfold qN;rw[Bool.or_eq_false_iff,Bool.or_eq_false_iff,decide_eq_false_iff_not,decide_eq_false_iff_not,List.any_eq_false];constructor
 .exact QDi
 .exact QDi
structure iF (c d:cF):Prop where
 id:d.id=c.id
 aDE:d.aDE=c.aDE
 aDx:d.aDx=c.aDx\/gX c.aDx d.aDx=true
 log:c.log <+:d.log
 shut:c.aDx=nZ->d.aDi=c.aDi
theorem iF.refl(c:cF):iF c c:=⟨rfl,rfl,.inl rfl,List.prefix_refl _,fun _=>rfl⟩
def jO(t:Int)(a:bY)(l m:List cF):Prop:=m.length=l.length/\∀(i:Nat) (c:cF),l[i]? =some c->∃L:List rT,m[i]? =some {c with log:=c.log++L}/\∀h∈L,h.aDm=t/\h.aDK=a
theorem jO.refl(t:Int)(a:bY)(l:List cF):jO t a l l:=⟨rfl,fun i c h=>⟨[],by rw[h,List.append_nil],fun _ h=>by cases h⟩⟩
theorem jO.trans{t:Int}{a:bY}{l m n:List cF}(h:jO t a l m)(k:jO t a m n):jO t a l n:=by
 refine⟨k.1.trans h.1,fun i c j=> ?_⟩;obtain⟨L,e,f⟩:=h.2 i c j;obtain⟨M,d,g⟩:=k.2 i _ e;refine⟨L++M,by rw[d,List.append_assoc],fun x b=> ?_⟩
 rcases List.mem_append.1 b with b|b
 .exact f x b
 .exact g x b
theorem YL(s:Sto)(o:Op)(what:bY):jO s.aDm o.aDs s.aDc (lV s o what).aDc:=by
 unfold lV;dsimp only;split
 .unfold fF;dsimp only;split
  .rename_i c f;refine⟨List.length_set,fun i d a=> ?_⟩;rw[List.getElem?_set];by_cases e:s.aDc.findIdx (fun c=>decide (c.id=o.aDj))=i
   .subst e;rw[iP rfl,iP qo];rw[f] at a;injection a with a;subst a;exact⟨[⟨s.aDm,o.aDs,what⟩],rfl,fun h b=>by rw[List.mem_singleton] at b;rw[b];exact⟨rfl,rfl⟩⟩
   .rw[iN e];exact⟨[],by rw[a,List.append_nil],fun _ h=>by cases h⟩
  .exact jO.refl _ _ _
 .exact jO.refl _ _ _
theorem YM(o:Op)(d:Bool)(s:Sto)(x:Ob):jO s.aDm o.aDs s.aDc (dB o d s x).aDc:=by
 unfold dB;split
 .exact YL s o x.arg
 .split
  .exact jO.refl _ _ _
  .split<;>exact jO.refl _ _ _
theorem uR(o:Op)(d:Bool):∀(l:List Ob) (s:Sto),jO s.aDm o.aDs s.aDc (l.foldl (dB o d) s).aDc
 | [],_=>jO.refl _ _ _
 |x::l,s=>(YM o d s x).trans (by have:=uR o d l (dB o d s x);rwa [CQ] at this)
theorem Dt{t:Int}{a:bY}{l m:List cF}(h:jO t a l m):m.map cF.id=l.map cF.id:=by
 refine List.ext_getElem? fun j=> ?_
 rw[List.getElem?_map,List.getElem?_map]
 rcases Nat.lt_or_ge j l.length with hj|hj
 .obtain⟨L,e,_⟩:=h.2 j l[j] (gE hj);rw[e,gE hj];rfl
 .rw[List.getElem?_eq_none hj,List.getElem?_eq_none (by rw[h.1];exact hj)]
theorem Du{t:Int}{a:bY}{l m:List cF}(h:jO t a l m){d:cF}(g:d∈m):∃c∈l,∃L:List rT,d={c with log:=c.log++L}/\∀h∈L,h.aDm=t/\h.aDK=a:=by
 obtain⟨i,b,rfl⟩:=List.getElem_of_mem g;have j:i<l.length:=by rw[<-h.1];exact b
 obtain⟨L,e,f⟩:=h.2 i l[i] (gE j);rw[gE b] at e;injection e with e;exact⟨l[i],List.getElem_mem _,L,e,f⟩
theorem PC{t:Int}{a:bY}{c:cF}{L:List rT}(h:lW t c)(f:0<=t)(d:∀h∈L,h.aDm=t/\h.aDK=a):lW t {c with log:=c.log++L}:=by
 refine⟨h.aDi,h.aDR,h.aEk,fun x b=> ?_,?_⟩
 .rcases List.mem_append.1 b with b|b
  .exact h.aD6 x b
  .rw[(d x b).1];exact⟨f,Int.le_refl _⟩
 .rw[List.pairwise_append];refine⟨h.order,?_,fun x b y g=> ?_⟩
  .refine List.pairwise_iff_getElem.2 fun i j e hj _=> ?_
   rw[(d _ (List.getElem_mem e)).1,(d _ (List.getElem_mem hj)).1];exact Int.le_refl _
  .rw[(d y g).1];exact(h.aD6 x b).2
def jF(a b:List vY)(tick:Int):Prop:=∃l,b=a++l/\∀r∈l,r.aDm=tick/\r.open_=true
theorem jF.refl(a:List vY)(t:Int):jF a a t:=⟨[],qs,fun n h=>absurd h qs⟩
theorem jF.trans{a b c:List vY}{t:Int}(h:jF a b t)(k:jF b c t):jF a c t:=by
 exact QCa
theorem PD(s:Sto)(o:Op)(r:bY):jF s.aDf (gB s o r).aDf s.aDm:=⟨_,rfl,fun n a=>by rw[List.mem_singleton] at a;rw[a];exact⟨rfl,rfl⟩⟩
theorem Je(o:Op)(d:Bool)(s:Sto)(x:Ob):jF s.aDf (dB o d s x).aDf s.aDm:=by
 unfold dB;split
 .rw[(UW _ _ _).2];exact jF.refl _ _
 .split
  .exact PD _ _ _
  .split<;>exact jF.refl _ _
theorem GG(o:Op)(d:Bool):∀(l:List Ob) (s:Sto),jF s.aDf (l.foldl (dB o d) s).aDf s.aDm
 | [],_=>jF.refl _ _
 |x::l,s=>(Je o d s x).trans (by have:=GG o d l (dB o d s x);rwa [CQ] at this)
theorem tB(g:Bool)(s:Sto)(o:Op)(r:bY):(if g=true then gB s o r else s).aDc=s.aDc:=by split<;>rfl
theorem RG(g:Bool)(s:Sto)(o:Op)(r:bY):jF s.aDf (if g=true then gB s o r else s).aDf s.aDm:=by
 split
 .exact PD _ _ _
 .exact jF.refl _ _
theorem UY{a b:List vY}{t:Int}(h:jF a b t)(e:0<=t)(ha:∀r∈a,0<=r.aDm/\r.aDm<=t):∀r∈b,0<=r.aDm/\r.aDm<=t:=by
 obtain⟨l,rfl,d⟩:=h;intro r c
 rcases List.mem_append.1 c with c|c
 .exact ha r c
 .rw[(d r c).1];exact⟨e,Int.le_refl _⟩
theorem Jf{s:Sto}(h:uF s)(g:Bool)(o:Op)(r:bY):uF (if g=true then gB s o r else s):=by
 have h1:=UY (RG g s o r) h.aDm.1 h.aDS;have a:=QU g s o r;have c:=gS g s o r;have b:=tB g s o r;exact⟨by rw[a];exact h.aDm,by rw[c.2];exact h.aDq,by rw[b];exact h.few,by rw[c.1];exact h.aDp,by rw[b];exact h.aDR,by rw[b,a];exact h.each,by rw[a];exact h1⟩
theorem Dv{s:Sto}(h:uF s)(o:Op)(d:Bool)(l:List Ob):uF (l.foldl (dB o d) s):=by
 have a:=FR o d l s;have f:=mT o d l s;have e:=uR o d l s;refine⟨by rw[a];exact h.aDm,by rw[f.2];exact h.aDq,by rw[e.1];exact h.few,by rw[f.1];exact h.aDp,GF h.aDR (Dt e),?_,?_⟩
 .intro c j;obtain⟨b,i,L,rfl,g⟩:=Du e j;rw[a];exact PC (h.each b i) h.aDm.1 g
 .rw[a];exact UY (GG o d l s) h.aDm.1 h.aDS
theorem QDj{p:Prop}(h:p:=by
 simp only[aL,List.length_singleton,List.length_take,List.length_drop];omega):p:=h
def nN(l:List (ByteArray×V3))(name:bY)(v:V3):List (ByteArray×V3):=
 let i:=l.findIdx (fun f=>gU name f.1)
 match l[i]? with
 |none=>l++[(name,v)]
 |some f=>if f.1=name then l.set i (name,v) else l.take i++[(name,v)]++l.drop i
theorem xL(c:cF)(name:bY)(v:V3):nT c name v={c with aDi:=nN c.aDi name v}:=by
 unfold nT nN;dsimp only
 cases c.aDi[c.aDi.findIdx (fun f=>gU name f.1)]? with
 |none=>rfl
 |some f=>dsimp only;split<;>rfl
theorem Pu{l:List (ByteArray×V3)}{name:bY}{v:V3}{f:ByteArray×V3}(h:f∈nN l name v):f∈l\/f=(name,v):=by
 unfold nN at h;dsimp only at h;split at h
 .rcases List.mem_append.1 h with h|h
  .exact .inl h
  .exact .inr (by simpa using h)
 .split at h
  .rcases List.mem_or_eq_of_mem_set h with h|h
   .exact .inl h
   .exact .inr h
  .rw[List.append_assoc,List.mem_append,List.mem_append] at h
   rcases h with h|h|h
   .exact .inl (List.mem_of_mem_take h)
   .exact .inr (by simpa using h)
   .exact .inl (List.mem_of_mem_drop h)
theorem Jg{l:List (ByteArray×V3)}(h:kJ Prod.fst l)(name:bY)(v:V3):kJ Prod.fst (nN l name v):=by
 unfold nN;dsimp only;split
 .rename_i d;have hle:l.findIdx (fun f=>gU name f.1)<=l.length:=List.findIdx_le_length;have e:l.length<=l.findIdx (fun f=>gU name f.1):=List.getElem?_eq_none_iff.1 d;have:=AJ h (name,v) l.length (by show l.findIdx (fun c=>gU name c.1)=_;omega) (fun c a=>by rw[List.getElem?_eq_none (lR _)] at a;cases a);rwa [List.take_length,List.drop_length,List.append_nil] at this
 .rename_i f b;split
  .rename_i he;exact KQ h (fun c a=>by rw[b] at a;injection a with a;rw[<-a];exact he.symm)
  .rename_i he;exact AJ h (name,v) _ rfl (fun c a=>by
    have:l[l.findIdx (fun f=>gU name f.1)]? =some c:=a;rw[b] at this;injection this with this;rw[<-this];exact he)
theorem YN{l:List (ByteArray×V3)}(h:kJ Prod.fst l){f:ByteArray×V3}(b:f∈l):l[l.findIdx (fun g=>gU f.1 g.1)]? =some f:=by
 obtain⟨k,a,rfl⟩:=List.getElem_of_mem b;have:=Ds (key:=Prod.fst) h a;rw[this];exact gE a
theorem Pw{l:List (ByteArray×V3)}(h:kJ Prod.fst l)(name:bY)(v:V3)(a:l.length<=16)(c:16<=l.length->∃f∈l,f.1=name):(nN l name v).length<=16:=by
 by_cases h16:16<=l.length
 .obtain⟨f,b,rfl⟩:=c h16;have e:=YN h b;unfold nN;dsimp only;rw[e];dsimp only;rw[iP rfl,List.length_set];exact a
 .unfold nN;dsimp only;split
  .rw[aL,List.length_singleton];omega
  .split
   .rw[List.length_set];exact a
   .rw[aL,aL,List.length_singleton,List.length_take,List.length_drop];omega
theorem Dw{c:cF}{name:bY}(h:gJ c name≠bD):∃f∈c.aDi,f.1=name:=by
 unfold gJ at h
 cases a:c.aDi.find? (fun f=>decide (f.1=name)) with
 |none=>rw[a] at h;exact absurd rfl h
 |some f=>exact⟨f,List.mem_of_find?_eq_some a,by simpa using List.find?_some a⟩
theorem RH{o:Op}(h:gQ o=true)(a:o.aDe=3):o.val≠bD:=by
 unfold gQ at h;split at h
 .cases h
 split at h
 .cases h
 unfold fV at h;dsimp only at h;rw[iN qo,iN qo,iP a] at h;simp only[Bool.and_eq_true,decide_eq_true_eq] at h;exact h.1.2
theorem wM{o:Op}(h:gQ o=true)(a:o.aDe=8):0<o.aDz/\o.aDz<=1099511627776:=by
 unfold gQ at h;split at h
 .cases h
 split at h
 .cases h
 unfold fV at h;dsimp only at h;rw[iN qo,iN qo,iN qo,iN qo,iN qo,iN qo,iP a] at h;simp only[Bool.and_eq_true,decide_eq_true_eq] at h;exact h.1
theorem AN{s:Sto}{o:Op}(h:iG s o=0):∃c,eS s o.aDj=some c/\¬(o.aDe=3/\16<=c.aDi.length/\gJ c o.aDy=bD)/\¬(o.aDe≠2/\256<=c.log.length)/\¬((o.aDe=3/\c.aDx=nZ)\/(o.aDe=4/\gX c.aDx o.to_=false)):=by
 unfold iG at h
 cases a:eS s o.aDj with
 |none=>rw[a] at h;exact absurd (show (10:Int)=0 from h) qe
 |some c=>
  rw[a] at h;dsimp only at h;refine⟨c,rfl,?_⟩;split at h
  .cases h
  rename_i h1;split at h
  .cases h
  rename_i h2;split at h
  .cases h
  rename_i h3;exact⟨h1,h2,h3⟩
theorem AO{s:Sto}{o:Op}(h:eG s o=0):gQ o=true/\(o.aDe=1->(aW s o.aDj).2=false/\s.aDc.length<64)/\(o.aDe=2\/o.aDe=3\/o.aDe=4->iG s o=0)/\(o.aDe=5->iR s o=0)/\(o.aDe=6->¬(64<=s.aDp.length/\qU s o.aDj o.aDy=false))/\(o.aDe=8->s.aDm<=1099511627776 - o.aDz):=by
 have b:=nU h;unfold eG at h;rw[b,iN qe] at h;refine⟨b,fun a=> ?_,fun a=> ?_,fun a=> ?_,fun a=> ?_,fun a=> ?_⟩
 .rw[iP a] at h;split at h
  .cases h
  rename_i h1;split at h
  .cases h
  exact⟨by simpa using h1,qo⟩
 .rw[iN qo,iP a] at h;exact h
 .rw[iN qo,iN qo,iP a] at h;exact h
 .rw[iN qo,iN qo,iN qo,iP a] at h;split at h
  .cases h
  rename_i h1;exact h1
 .rw[iN qo,iN qo,iN qo,iN qo,iP a] at h;split at h
  .cases h
  omega
theorem NC{s:Sto}{c:cF}(h:lW s.aDm c)(e:0<=s.aDm)(a b:bY):lW s.aDm (oC s c a b):=PC h e (L:=[⟨s.aDm,a,b⟩]) (a:=a) (fun x d=>by rw[List.mem_singleton] at d;rw[d];exact⟨rfl,rfl⟩)
theorem KR{s:Sto}{i:Nat}{f:cF->cF}{d:cF}(h:d∈(fF s i f).aDc):d∈s.aDc\/∃c,s.aDc[i]? =some c/\d=f c:=by
 unfold fF at h;dsimp only at h;split at h
 .rename_i c a
  rcases List.mem_or_eq_of_mem_set h with h|h
  .exact .inl h
  .exact .inr ⟨c,a,h⟩
 .exact .inl h
theorem YO{s:Sto}{i:Nat}{f:cF->cF}(h:kJ cF.id s.aDc)(e:∀c,s.aDc[i]? =some c->(f c).id=c.id):kJ cF.id (fF s i f).aDc:=by
 unfold fF;dsimp only;split
 .rename_i c b;exact KQ h (fun d a=>by rw[b] at a;injection a with a;rw[<-a];exact e c b)
 .exact h
theorem AP(s:Sto)(i:Nat)(f:cF->cF):(fF s i f).aDc.length=s.aDc.length:=by
 unfold fF;dsimp only;split
 .exact List.length_set
 .rfl
def lX(s t:Sto):Prop:=s.aDc.length<=t.aDc.length/\∀c∈s.aDc,∃d∈t.aDc,iF c d
theorem lX.refl(s:Sto):lX s s:=⟨lR _,fun c a=>⟨c,a,iF.refl c⟩⟩
theorem Px{s:Sto}{i:Nat}{f:cF->cF}(g:∀c,s.aDc[i]? =some c->iF c (f c)):lX s (fF s i f):=by
 refine⟨by rw[AP];exact lR _,fun c d=> ?_⟩;obtain⟨k,b,rfl⟩:=List.getElem_of_mem d;unfold fF;dsimp only;split
 .rename_i c a;by_cases e:i=k
  .subst e;rw[gE b] at a;injection a with a;subst a;exact⟨_,List.mem_set b _,g _ (gE b)⟩
  .exact⟨s.aDc[k],List.mem_iff_getElem.2 ⟨k,by rw[List.length_set];exact b,by rw[List.getElem_set_ne e]⟩,iF.refl _⟩
 .exact⟨_,d,iF.refl _⟩
theorem UZ{s:Sto}{id:bY}{c d:cF}(h:eS s id=some c)(a:s.aDc[(aW s id).1]? =some d):d=c:=by
 obtain⟨k,f,b,e,_⟩:=Aq h;rw[b] at a;dsimp only at a;rw[gE f,e] at a;injection a with a;exact a.symm
theorem VA{s:Sto}(o:Op)(h:uF s):uF (dL s o)/\lX s (dL s o):=by
 unfold dL;by_cases h0:eG s o=0
 case neg=>rw[iP h0];exact⟨h,lX.refl s⟩
 rw[iN (fun j=>j h0)];obtain⟨d,B,p,G,C,D⟩:=AO h0;dsimp only;by_cases h1:o.aDe=1
 .rw[iP h1];obtain⟨h2,h3⟩:=B h1;obtain⟨n,w⟩:=Pt h2;have E:lW s.aDm (oC s ⟨o.aDj,o.aDs,zQ,[],[]⟩ o.aDs (str "new")):=
   NC (c:=⟨o.aDj,o.aDs,zQ,[],[]⟩) ⟨qs,List.Pairwise.nil,(fun f d=>by cases d),(fun x b=>by cases b),List.Pairwise.nil⟩ h.aDm.1 _ _
  have hle:(aW s o.aDj).1<=s.aDc.length:=by rw[n];exact List.findIdx_le_length
  refine⟨⟨h.aDm,h.aDq,?_,h.aDp,?_,?_,h.aDS⟩,?_,?_⟩
  .exact QDj
  .exact AJ (key:=cF.id) h.aDR _ _ n.symm w
  .intro c a;simp only[List.append_assoc,List.mem_append,List.mem_singleton] at a
   rcases a with a|rfl|a
   .exact h.each c (List.mem_of_mem_take a)
   .exact E
   .exact h.each c (List.mem_of_mem_drop a)
  .exact QDj
  .intro c a;refine⟨c,?_,iF.refl c⟩;simp only[List.append_assoc,List.mem_append,List.mem_singleton];have:c∈s.aDc.take (aW s o.aDj).1++s.aDc.drop (aW s o.aDj).1:=by rw[List.take_append_drop];exact a
   rcases List.mem_append.1 this with h|h
   .exact .inl h
   .exact .inr (.inr h)
 rw[iN h1];have q:∀f:cF->cF,(∀c,s.aDc[(aW s o.aDj).1]? =some c->lW s.aDm c->lW s.aDm (f c)/\iF c (f c))->uF (fF s (aW s o.aDj).1 f)/\lX s (fF s (aW s o.aDj).1 f):=by
  intro f z;have hm:∀c,s.aDc[(aW s o.aDj).1]? =some c->lW s.aDm (f c)/\iF c (f c):=fun c a=>z c a (h.each c (List.mem_of_getElem? a))
  refine⟨⟨h.aDm,h.aDq,by rw[AP];exact h.few,h.aDp,YO h.aDR (fun c a=>(hm c a).2.id),fun c a=> ?_,h.aDS⟩,Px (fun c a=>(hm c a).2)⟩
  rcases KR a with a|⟨v,y,rfl⟩
  .exact h.each c a
  .exact(hm v y).1
 by_cases h3:o.aDe=3
 .rw[iP h3];obtain⟨c0,g,t,F,m⟩:=AN (p (.inr (.inl h3)));refine q _ fun c a hm=> ?_
  obtain rfl:=UZ g a;rw[xL];have k:lW s.aDm {c with aDi:=nN c.aDi o.aDy o.val}:=by
   refine⟨Pw hm.aDR _ _ hm.aDi (fun h16=>Dw (fun e=>t ⟨h3,h16,e⟩)),Jg hm.aDR _ _,fun f i=> ?_,hm.aD6,hm.order⟩
   rcases Pu i with i|rfl
   .exact hm.aEk f i
   .exact RH d h3
  exact⟨NC k h.aDm.1 _ _,⟨rfl,rfl,.inl rfl,List.prefix_append _ _,fun a=>absurd (.inl ⟨h3,a⟩) m⟩⟩
 rw[iN h3];by_cases h4:o.aDe=4
 .rw[iP h4];obtain⟨c0,g,t,F,m⟩:=AN (p (.inr (.inr h4)));refine q _ fun c a hm=> ?_
  obtain rfl:=UZ g a;have k:lW s.aDm {c with aDx:=o.to_}:=⟨hm.aDi,hm.aDR,hm.aEk,hm.aD6,hm.order⟩;refine⟨NC k h.aDm.1 _ _,⟨rfl,rfl,.inr ?_,List.prefix_append _ _,fun _=>rfl⟩⟩;show gX c.aDx o.to_=true
  cases A:gX c.aDx o.to_
  .exact absurd (.inr ⟨h4,A⟩) m
  .rfl
 rw[iN h4];by_cases h5:o.aDe=5
 .rw[iP h5];refine⟨⟨h.aDm,h.aDq,h.few,h.aDp,h.aDR,h.each,?_⟩,lR _,fun c a=>⟨c,a,iF.refl c⟩⟩;dsimp only;split
  .rename_i r l;intro x b
   rcases List.mem_or_eq_of_mem_set b with b|rfl
   .exact h.aDS x b
   .exact h.aDS r (List.mem_of_getElem? l)
  .exact h.aDS
 rw[iN h5];by_cases h6:o.aDe=6
 .rw[iP h6];split
  .exact⟨h,lX.refl s⟩
  .rename_i j;have:=C h6;refine⟨⟨h.aDm,h.aDq,h.few,?_,h.aDR,h.each,h.aDS⟩,lR _,fun c a=>⟨c,a,iF.refl c⟩⟩;simp only[aL,List.length_singleton];have h7:qU s o.aDj o.aDy=false:=by simpa using j
   have h8:¬64<=s.aDp.length:=fun h=>this ⟨h,h7⟩
   omega
 rw[iN h6];by_cases h7:o.aDe=7
 .rw[iP h7];split
  .exact⟨⟨h.aDm,by have:=h.aDq;show 0<=s.aDq+1;omega,h.few,h.aDp,h.aDR,h.each,h.aDS⟩,lR _,fun c a=>⟨c,a,iF.refl c⟩⟩
  .exact⟨h,lX.refl s⟩
 rw[iN h7];by_cases h8:o.aDe=8
 .rw[iP h8];have h9:=D h8;have h10:=wM d h8;have h11:=h.aDm;refine⟨⟨⟨by show 0<=s.aDm+o.aDz;omega,by show s.aDm+o.aDz<=_;omega⟩,h.aDq,h.few,h.aDp,h.aDR,fun c a=>(h.each c a).more (by show s.aDm<=s.aDm+o.aDz;omega),fun r l=> ?_⟩,lR _,fun c a=>⟨c,a,iF.refl c⟩⟩;have:=h.aDS r l;exact⟨this.1,by show r.aDm<=s.aDm+o.aDz;omega⟩
 rw[iN h8];exact⟨h,lX.refl s⟩
theorem Dx{s t u:Sto}{k:Int}{a:bY}(h:lX s t)(f:jO k a t.aDc u.aDc):lX s u:=by
 refine⟨by rw[f.1];exact h.1,fun c g=> ?_⟩;obtain⟨d,j,b⟩:=h.2 c g;obtain⟨i,l,rfl⟩:=List.getElem_of_mem j;obtain⟨L,e,_⟩:=f.2 i _ (gE l);exact⟨_,List.mem_of_getElem? e,⟨b.id,b.aDE,b.aDx,b.log.trans (List.prefix_append _ _),b.shut⟩⟩
theorem YP(g:Bool)(s:Sto)(o:Op)(r:bY):lX s (if g=true then gB s o r else s):=by
 split
 .exact⟨lR _,fun c a=>⟨c,a,iF.refl c⟩⟩
 .exact lX.refl s
theorem Dy{s t u:Sto}(h:t.aDc=s.aDc)(k:lX t u):lX s u:=by
 refine⟨by rw[<-h];exact k.1,fun c a=>k.2 c (by rw[h];exact a)⟩
theorem Jh(s:Sto)(o:Op)(h:AK s):AK (cV s o).1/\lX s (cV s o).1:=by
 have hw:=nI s o
 rcases a:cV s o with ⟨t,r,d,e⟩
 rw[a] at hw
 cases hw with
 |none _ _ he j _=>exact⟨h,lX.refl s⟩
 |some m l glass hidden v k i g c b f n=>
  dsimp only;have hm:=Jf h.1 glass o o.aDB;refine⟨⟨?_,b⟩,?_⟩
  .refine Dv ?_ o _ l;split
   .exact(VA o hm).1
   .exact hm
  .refine Dx ?_ (uR o _ l _);split
   .exact Dy (tB glass s o o.aDB) (VA o hm).2
   .exact YP glass s o o.aDB
theorem Yv:AK kW:=⟨⟨⟨qe,qe⟩,qe,qe,qe,List.Pairwise.nil,(fun c a=>by cases a),(fun r b=>by cases b)⟩,rfl⟩
theorem bC.aEw{K:nP}{base:Nat}{w:World}{s:Sto}{L:List Mix}{ro:Option Value}{c:oD}{n f:Nat}{vr vn vo vt vu vk vb:Value}(h:bC K base w s L ro (.slice c n f) vr vn vo vt vu vk vb){k:Nat}(a:k<L.length)(o:L[k].2.1.isSome=true):
 ∃g la lc,c=some ⟨g,0,none⟩/\L[k].2.1=some (.slice la L[k].1.aDi.length lc)/\w.cell? ⟨g,k * 5+3,none⟩=some (.slice la L[k].1.aDi.length lc)/\base<=g/\g<w.heap.size/\aM kO 4 74 w base (fun _=>False) (.slice la L[k].1.aDi.length lc) L[k].1.aDi/\some g≠(Value.slice la L[k].1.aDi.length lc).ownBlock/\(∀i,w.frozen? ⟨g,i,none⟩=false)/\¬K g:=by
 obtain⟨g,r,e,h1,h2,hm,j,l⟩:=h.aDc.at (dP base K) a qe;obtain⟨z,A,rfl,p,q,t,d,p5⟩:=hm;obtain⟨v,b⟩:=Option.isSome_iff_exists.1 o;have m:=(kE h.aDc a).1 v b;rw[b] at d;obtain⟨rfl,q1,x,y⟩:=d;obtain⟨la,lc,rfl⟩:=q1.slice;subst e;exact⟨g,la,lc,rfl,b,j 3 _ rfl,h1,h2,q1,fun e=>m.2.1 g e.symm rfl,l,fun a=>(h.kept g a).2.1 rfl⟩
theorem DP{K:nP}{base:Nat}{w d c:World}{s:Sto}{L:List Mix}{ro:Option Value}{g n l:Nat}{vr vn vo vt vu vk vb:Value}{k:Nat}(a:bC K base d s L ro (.slice (some ⟨g,0,none⟩) n l) vr vn vo vt vu vk vb)(i:k<L.length)(t:Below w.heap.size w d){v v':Value}(j:L[k].2.1=some v){l':List oI}(q:l'.length<=1000000)(m:d.grownBy c v.ownBlock)(o:aM kO 4 74 c base (fun _=>False) v' l')(p:v'.ownBlock=v.ownBlock\/v'.ownBlock=some d.heap.size):
 Hid (bC K base (c.setCell ⟨g,k * 5+3,none⟩ v') {s with aDc:=s.aDc.set k {L[k].1 with aDi:=l'}} (L.set k ({L[k].1 with aDi:=l'},some v',L[k].2.2)) ro (.slice (some ⟨g,0,none⟩) n l) vr vn vo vt vu vk vb)/\Hid (aO (fun b=>b<base\/K b) w (c.setCell ⟨g,k * 5+3,none⟩ v')):=by
 have r:=(kE a.aDc i).1 v j;have x:=a.aDc.lt g rfl;exact⟨a.aDi i j m o (yP p (lR _)) q,((aJ t).trans ((cX m).mono (fun b _ f e=>f.elim (fun h=>qA ((r.1.lt b e.symm).1)) (fun h=>(a.aDH k i).1 b (cM.2 ⟨v,j,e.symm⟩) h)))).trans ((aI _).mono (fun b _ f e=>f.elim (fun h=>by omega) (fun h=>(a.kept b h).2.1 (by rw[e];rfl))))⟩
theorem Vs{w:World}{base:Nat}{ok:nP}{e:TypeId}{g n c k:Nat}{l:List oI}(h:aM kO 4 e w base ok (.slice (some ⟨g,0,none⟩) n c) l)(b:k<l.length){N:bY}{v:V3}(m:l[k].1=N)(d:cS v):
 aM kO 4 e (((w.setCell ⟨g,k * 4+1,none⟩ (.int .i64 v.1)).setCell ⟨g,k * 4+2,none⟩ (.int .i64 v.2.1)).setCell ⟨g,k * 4+3,none⟩ (.string v.2.2)) base ok (.slice (some ⟨g,0,none⟩) n c) (l.set k (N,v)):=by
 have h1:=aM.setAt bO (j:=1) (x:= .int .i64 v.1) (y:=(l[k].1,(v.1,l[k].2.2))) h b qe (by rintro r ⟨rfl,a⟩;exact⟨rfl,a.1,d.1,a.2.2⟩);have f:(l.set k (l[k].1,(v.1,l[k].2.2)))[k]'(by rw[List.length_set];exact b)=(l[k].1,(v.1,l[k].2.2)):=List.getElem_set_self _;have h2:=aM.setAt bO (j:=2) (x:= .int .i64 v.2.1) (y:=(l[k].1,(v.1,v.2.1,l[k].2.2.2))) h1 (by rw[List.length_set];exact b) qe (by rw[f];rintro r ⟨rfl,a⟩;exact⟨rfl,a.1,d.1,d.2.1,a.2.2.2⟩);rw[List.set_set] at h2;have i:(l.set k (l[k].1,(v.1,v.2.1,l[k].2.2.2)))[k]'(by rw[List.length_set];exact b)=(l[k].1,(v.1,v.2.1,l[k].2.2.2)):=List.getElem_set_self _;have h3:=aM.setAt bO (j:=3) (x:= .string v.2.2) (y:=(l[k].1,v)) h2 (by rw[List.length_set];exact b) qe (by rw[i];rintro r ⟨rfl,a⟩;exact⟨rfl,a.1,d⟩);rw[List.set_set,m] at h3;exact h3
theorem VB{w w':World}{base i:Nat}{v:Value}{l:List oI}{xs:List Value}{x:oI}(g:EN x)(d:i<=l.length)(h:w.ownsRow base 74 4 v l.length xs/\aX (kO w (fun b=>False/\b<w.heap.size/\some b≠v.ownBlock)) xs l){A:oD}{a:Nat}(c:w'.ownsRow base 74 4 (.slice A (l.length+1) a) (l.length+1) (xs.take (i * 4)++uA x++xs.drop (i * 4))):
 aM kO 4 74 w' base (fun _=>False) (.slice A (l.length+1) a) (l.take i++[x]++l.drop i):=by
 have e:(l.take i++[x]++l.drop i).length=l.length+1:=by simp only[aL,List.length_take,List.length_drop,List.length_cons,List.length_nil];omega
 refine⟨_,by rw[e];exact c,?_⟩;have h2:aX (kO w' (fun b=>False/\b<w'.heap.size/\some b≠(Value.slice A (l.length+1) a).ownBlock)) xs l:=h.2;have h3:=h2.split (fun r x f=>bO.len f) i d;exact(h3.1.append (aX.one ⟨rfl,g⟩)).append h3.2
theorem Vt{l:List (ByteArray×V3)}{N:bY}{v:V3}(h:¬l.findIdx (fun f=>gU N f.1)<l.length):nN l N v=l++[(N,v)]:=by
 unfold nN;dsimp only;rw[List.getElem?_eq_none qo]
theorem Yw{l:List (ByteArray×V3)}{N:bY}{v:V3}{f:Nat}(a:f=l.findIdx (fun f=>gU N f.1))(h:f<l.length):nN l N v=if l[f].1=N then l.set f (N,v) else l.take f++[(N,v)]++l.drop f:=by
 unfold nN;dsimp only;rw[<-a,gE h]
def Ji(K:nP)(base:Nat)(s:Sto)(L:List Mix)(ro:Option Value)(vc vr vn vo vt vu vk vb:Value)(k:Nat)(c:cF)(o:Option Value)(w:World)(e:Ending)(w':World):Prop:=e=.returned (.tuple #[])/\∃u,bC K base w' {s with aDc:=s.aDc.set k c} (L.set k (c,some u,o)) ro vc vr vn vo vt vu vk vb/\aO (fun b=>b<base\/K b) w w'
theorem Jj{K:nP}{base:Nat}(s:Sto)(L:List Mix)(ro:Option Value)(ca:oD)(n cc:Nat)(vr vn vo vt vu vk vb:Value)(k:Nat)(w:World)(hO:bC K base w s L ro (.slice ca n cc) vr vn vo vt vu vk vb)(C:k<L.length)(hs:L[k].2.1.isSome=true)(N:bY)(hN:N.size<=cQ)(v:V3)(hv:cS v)(hl:L[k].1.aDi.length<=900000)(g:Nat)(b2:ca=some ⟨g,0,none⟩):
 Calls prog 108 #[.pointer (some ⟨g,k * 5,none⟩),.string N,dD v] w (Ji K base s L ro (.slice ca n cc) vr vn vo vt vu vk vb k (nT L[k].1 N v) L[k].2.2 w):=by
 obtain⟨g',fa,fc,X,bm,H,b9,b4,q,bn,Y,b8⟩:=hO.aEw C hs;subst b2;injection X with X;injection X with X _ _;subst X;obtain⟨t,au⟩:∃O:Obj,O=.cells #[.string N] 9:=⟨_,rfl⟩;obtain⟨z,av⟩:∃O:Obj,O=.cells #[.int .i64 v.1,.int .i64 v.2.1,.string v.2.2] 56:=⟨_,rfl⟩;obtain⟨W0,S⟩:=xE ((w.alloc t).alloc z);have ag:Below w.heap.size w W0:=by rw[S];exact aC (aB _ _) (aB _ _)
 have h1:W0.heap[w.heap.size]? =some t:=by rw[S];exact aE (aK _ _ _ rfl) (aB _ _)
 have h2:W0.heap[w.heap.size+1]? =some z:=by rw[S];exact aK _ _ _ qs
 obtain⟨A,ah⟩:∃A,w.heap[g]? =some A:=⟨_,Array.getElem?_eq_getElem b4⟩;have D:Hid (∀(w':World),(w'.heap[g]? =some A/\w'.heap[w.heap.size]? =some t/\w'.heap[w.heap.size+1]? =some z)->w'.cell? ⟨g,k * 5+3,none⟩=some (.slice fa L[k].1.aDi.length fc)/\w'.frozen? ⟨g,k * 5+3,none⟩=false/\g<w'.heap.size/\w'.cell? ⟨w.heap.size,0,none⟩=some (.string N)/\w.heap.size<w'.heap.size/\w'.cell? ⟨w.heap.size+1,0,none⟩=some (.int .i64 v.1)/\w'.cell? ⟨w.heap.size+1,1,none⟩=some (.int .i64 v.2.1)/\w'.cell? ⟨w.heap.size+1,2,none⟩=some (.string v.2.2)/\w.heap.size+1<w'.heap.size):=aA (fun w' C=>by
  have h2:=C.2.1;have h3:=C.2.2;rw[au] at h2;rw[av] at h3;exact⟨(World.cell?_of_block (a:=⟨g,k * 5+3,none⟩) (C.1.trans ah.symm)).trans H,(World.frozen?_of_block (a:=⟨g,k * 5+3,none⟩) (C.1.trans ah.symm)).trans (Y _),aD C.1,aQ h2 0 _ rfl,aD h2,aQ h3 0 _ rfl,aQ h3 1 _ rfl,aQ h3 2 _ rfl,aD h3⟩)
 have I:Hid (W0.heap[g]? =some A/\W0.heap[w.heap.size]? =some t/\W0.heap[w.heap.size+1]? =some z):=aA ⟨aE ah ag,h1,h2⟩;obtain⟨f,hf⟩:=xE (L[k].1.aDi.findIdx (fun x=>gU N x.1));have T:=aA (TR _ L[k].1.aDi N w.heap.size W0 ((q.on bO ag).aD9 bO qo) ⟨(D.o _ I.o).2.2.2.1,aD h1⟩);have bd:Hid (eT (fun x=>gU N x.1) L[k].1.aDi=if f<L[k].1.aDi.length then (f:Int) else -1):=aA (by unfold eT;rw[<-hf]);obtain⟨ad,al,bc,aa,ba,az,bf,aq⟩:=SC hO q bn bm hf ag hN hv;have ab:Hid (some w.heap.size≠(Value.slice fa L[k].1.aDi.length fc).ownBlock/\some (w.heap.size+1)≠(Value.slice fa L[k].1.aDi.length fc).ownBlock):=aA ⟨fun e=>qA ((q.lt _ e.symm).2),fun e=>qA ((q.lt _ e.symm).2)⟩;unfold aN at T;rw[xL];unfold dD;rw[au,av] at S;have bh:=aA S;have bl:=hO.size;generalize eT (fun x=>gU N x.1) L[k].1.aDi=ix at *;generalize hx:L[k].1=x at *;have ae:=aA hx;clear hf S ag h1 h2 ah hO au av H Y q bn bm hN hv hx;obtain⟨c0,c1,j,l,m,v0,v1,v2,o⟩:=D.o _ I.o;by_cases R:f<x.aDi.length
 .have h1:ix=(f:Int):=by rw[bd.o,iP R]
  subst h1;have i0:¬((f:Int)<0):=qo;have i1:(f:Int)<(x.aDi.length:Int):=qo;go_enter func108,ntmps108;go_upto_region 1 with (fail)
  rw[<-bh.o];go_wp2_with fail;refine T.o.mono ?_;rintro e w1 ⟨rfl,G⟩;have F:=qB az G;have i:Hid (w1.heap[g]? =some A/\w1.heap[w.heap.size]? =some t/\w1.heap[w.heap.size+1]? =some z):=aA ⟨aE I.o.1 G,aE I.o.2.1 G,aE I.o.2.2 G⟩;clear c0 c1 j l m v0 v1 v2 o G T;obtain⟨c0,c1,j,l,m,v0,v1,v2,o⟩:=D.o _ i.o;obtain⟨p,r,b3,cb,b6,⟨rfl,b5⟩,H,Y⟩:=(al.o.on bO F.o).at bO R qe;subst b3;obtain⟨y,hy⟩:=xE (x.aDi[f]);rw[<-hy] at H b5;obtain⟨V,aw⟩:∃V,w1.heap[p]? =some V:=⟨_,Array.getElem?_eq_getElem b6⟩;have a6:Hid (∀(w':World),(w'.heap[g]? =some A/\w'.heap[w.heap.size]? =some t/\w'.heap[w.heap.size+1]? =some z/\w'.heap[p]? =some V)->w'.cell? ⟨p,f * 4,none⟩=some (.string y.1)/\p<w'.heap.size):=aA (fun w' C=>by
   have h0:=H 0 _ rfl;rw[Nat.add_zero] at h0;exact⟨(World.cell?_of_block (a:=⟨p,f * 4,none⟩) (C.2.2.2.trans aw.symm)).trans h0,aD C.2.2.2⟩)
  have bz:=aA hy;have bx:Hid (w1.cell? ⟨p,f * 4+1,none⟩=some (.int .i64 y.2.1)/\w1.cell? ⟨p,f * 4+1+1,none⟩=some (.int .i64 y.2.2.1)/\w1.cell? ⟨p,f * 4+1+2,none⟩=some (.string y.2.2.2)):=aA ⟨H 1 _ rfl,H 2 _ rfl,H 3 _ rfl⟩;have ak:=aA Y;have a8:Hid (w1.heap[g]? =some A/\w1.heap[w.heap.size]? =some t/\w1.heap[w.heap.size+1]? =some z/\w1.heap[p]? =some V):=aA ⟨i.o.1,i.o.2.1,i.o.2.2,aw⟩;have bg:Hid (nN x.aDi N v=if y.1=N then x.aDi.set f (N,v) else x.aDi.take f++[(N,v)]++x.aDi.drop f):=aA (by rw[hy];exact Yw ba.o R);clear hy H Y aw;obtain⟨y0,yz⟩:=a6.o _ a8.o;go_upto_region 5 with (fail)
  refine cA 10 [(0,false),(1,false),(2,false),(3,false),(4,false),(5,false),(6,false),(7,false),(8,false),(9,false)] [(10,true)] (fun w'=>w'.heap[g]? =some A/\w'.heap[w.heap.size]? =some t/\w'.heap[w.heap.size+1]? =some z/\w'.heap[p]? =some V) (by kernel_rfl) (by kernel_rfl) a8.o ?_;simp only[List.cons_append,List.nil_append]
  repeat (refine cU rfl (fun K c=> ?_);unfold rd;go_simp;refine c _ (fun Z h1=> ?_) ?_;(· clear c K c0 c1 j l m v0 v1 v2 o y0 yz;obtain⟨c0,c1,j,l,m,v0,v1,v2,o⟩:=D.o _ ⟨h1.1,h1.2.1,h1.2.2.1⟩;obtain⟨y0,yz⟩:=a6.o _ h1;unfold rd;go_simp);clear c K)
  refine bG rfl (fun B d=> ?_);unfold mv;go_simp;refine d _ _ (fun h=>absurd h qe) ?_;clear d B;unfold cG;have bb:=aA (al.o.on bO F.o);have a7:Hid ((y.1.toList==N.toList)=decide (y.1=N)):=aA (by rw[Bool.eq_iff_iff,bQ,decide_eq_true_eq];exact⟨FA,fun h=>by rw[h]⟩);generalize (y.1.toList==N.toList)=E at *
  cases E
  rotate_left
  .have af:Hid (y.1=N):=aA (of_decide_eq_true a7.o.symm);clear y0;go_upto_region 6 with (fail)
   have HZ:Hid (w1.drew.heap[g]? =some A/\w1.drew.heap[w.heap.size]? =some t/\w1.drew.heap[w.heap.size+1]? =some z):=aA i.o;refine cA 8 [(0,false),(1,false),(2,false),(3,false),(4,false),(5,false),(6,false),(7,false)] [(8,true)] (fun w'=>w'.heap[g]? =some A/\w'.heap[w.heap.size]? =some t/\w'.heap[w.heap.size+1]? =some z) (by kernel_rfl) (by kernel_rfl) i.o ?_;simp only[List.cons_append,List.nil_append]
   repeat (refine cU rfl (fun K c=> ?_);unfold rd;go_simp;refine c _ (fun Z h1=> ?_) ?_;(· clear c K c0 c1 j l m v0 v1 v2 o;obtain⟨c0,c1,j,l,m,v0,v1,v2,o⟩:=D.o _ h1;unfold rd;go_simp);clear c K)
   have z1:=ak.o (f * 4+1);have z2:=ak.o (f * 4+1+1);have z3:=ak.o (f * 4+1+2);obtain⟨y1,y2,y3⟩:=bx.o;refine bG rfl (fun B d=> ?_);unfold mv;go_simp;refine d _ _ (fun h=>absurd h qe) ?_;clear d B;unfold cG;go_wp2;go_returns;have b7:x.aDi[f].1=N:=bz.o▸af.o;have J:=Vs bb.o R b7 aq.o;have br:aO (fun b=>b≠p) w1 (((w1.setCell ⟨p,f * 4+1,none⟩ (.int .i64 v.1)).setCell ⟨p,f * 4+2,none⟩ (.int .i64 v.2.1)).setCell ⟨p,f * 4+3,none⟩ (.string v.2.2)):=((aI _).trans (aI _)).trans (aI _);have b1:=(ad.o.on F.o).aDy C aa.o (br.mono (fun b _ hb e=>hb (by rw[e];rfl))) J (by rw[List.length_set,ae.o]);have b0:¬K p:=(ad.o.aDH k C).1 p (cM.2 ⟨_,aa.o,rfl⟩);have W:({x with aDi:=nN x.aDi N v}:cF)={L[k].1 with aDi:=x.aDi.set f (N,v)}:=by rw[bg.o,iP af.o,<-ae.o]
   rw[W];exact⟨rfl,_,b1.on (Below.refl _ _).drew.drew,((aJ F.o).trans (br.mono (fun b _ hb e=>hb.elim (fun h=>by omega) (fun h=>b0 (e▸h))))).trans (aJ (Below.refl _ _).drew.drew)⟩
  .have af:Hid (¬y.1=N):=aA (of_decide_eq_false a7.o.symm);clear y0;go_upto_region 2 with (fail)
   trace_state
   refine cA 13 [(0,false),(1,false),(2,false),(3,false),(4,false),(5,false),(6,false),(7,false),(8,false),(9,true),(10,true),(11,false),(12,false)] [(13,true)] (fun w'=>w'.heap[g]? =some A/\w'.heap[w.heap.size]? =some t/\w'.heap[w.heap.size+1]? =some z) (by kernel_rfl) (by kernel_rfl) i.o ?_;simp only[List.cons_append,List.nil_append]
   repeat (refine cU rfl (fun K c=> ?_);unfold rd;go_simp;refine c _ (fun Z h1=> ?_) ?_;(· clear c K c0 c1 j l m v0 v1 v2 o;obtain⟨c0,c1,j,l,m,v0,v1,v2,o⟩:=D.o _ h1;unfold rd;go_simp);clear c K)
   refine bG rfl (fun B d=> ?_);unfold mv;go_simp;refine d _ _ (fun _=>⟨aE i.o.1 (aB _ _).drew.drew,aE i.o.2.1 (aB _ _).drew.drew,aE i.o.2.2 (aB _ _).drew.drew⟩) ?_;clear d B c0 c1 j l m v0 v1 v2 o;obtain⟨Q,ai⟩:=xE ((w1.alloc (.cells #[.string N,.int .i64 v.1,.int .i64 v.2.1,.string v.2.2] 74)).drew.drew);have M:Below w1.heap.size w1 Q:=by rw[ai];exact(aB _ _).drew.drew
   have bp:Q.heap[w1.heap.size]? =some (.cells (uA (N,v)).toArray 74 (0,0)):=by rw[ai];exact aK _ _ _ rfl
   have ar:Hid (Q.heap[g]? =some A/\Q.heap[w.heap.size]? =some t/\Q.heap[w.heap.size+1]? =some z):=aA ⟨aE i.o.1 M,aE i.o.2.1 M,aE i.o.2.2 M⟩;obtain⟨xs,ay,ax⟩:=bb.o.on bO M;have bs:=aA (QZ Q base (some ⟨p,0,none⟩) x.aDi.length fc f xs (uA (N,v)) w1.heap.size 1 74 ay qo qo (lT bl (aC F.o M).size) bp rfl (by intro u hu;simp only[uA,List.mem_cons,List.not_mem_nil,or_false] at hu;rcases hu with rfl|rfl|rfl|rfl<;>rfl) (aX.aDL (fun r x hr=>bO.one hr) ax) (fun e=>by have e2:some p=some w1.heap.size:=e;injection e2 with e3;omega));obtain⟨bt,a1,bw⟩:=aY (⟨ay,ax⟩:_/\_) (aC F.o M) ai;rw[<-bw.o];clear ai M bp ay ax;refine bG rfl (fun B d=> ?_);unfold mv;go_simp;refine bs.o.mono ?_;rintro e P ⟨A',c',rfl,bq,q,bj⟩;have J:=VB (x:=(N,v)) ⟨bf.o,aq.o⟩ qo bt.o bq;have U:Hid (P.heap[g]? =some A/\P.heap[w.heap.size]? =some t/\P.heap[w.heap.size+1]? =some z):=aA ⟨gK ar.o.1 (Below.refl _ _) q bc.o,gK ar.o.2.1 (Below.refl _ _) q ab.o.1,gK ar.o.2.2 (Below.refl _ _) q ab.o.2⟩;have aj:(x.aDi.take f++[(N,v)]++x.aDi.drop f).length<=1000000:=by simp only[aL,List.length_take,List.length_drop,List.length_cons,List.length_nil];omega
   obtain⟨an,ao⟩:=DP (ad.o.on a1.o) C a1.o aa.o aj q J bj;refine d _ _ (fun _=>U.o) ?_;clear d B J q bj bq aj;obtain⟨c0,c1,j,l,m,v0,v1,v2,o⟩:=D.o _ U.o
   repeat (refine cU rfl (fun K c=> ?_);unfold rd;go_simp;refine c _ (fun Z h1=> ?_) ?_;(· clear c K c0 c1 j l m v0 v1 v2 o;obtain⟨c0,c1,j,l,m,v0,v1,v2,o⟩:=D.o _ h1;unfold rd;go_simp);clear c K)
   refine bG rfl (fun B d=> ?_);unfold mv;go_simp;refine d _ _ (fun h=>absurd h qe) ?_;clear d B c0 c1 j l m v0 v1 v2 o;unfold cG;go_wp2;go_returns;have W:({x with aDi:=nN x.aDi N v}:cF)={L[k].1 with aDi:=x.aDi.take f++[(N,v)]++x.aDi.drop f}:=by rw[bg.o,iN af.o,<-ae.o]
   rw[W];exact⟨rfl,_,an.o,ao.o⟩
 .have h1:ix= -1:=by rw[bd.o,iN R]
  subst h1;go_enter func108,ntmps108;go_upto_region 1 with (fail)
  rw[<-bh.o];go_wp2_with fail;refine T.o.mono ?_;rintro e w1 ⟨rfl,G⟩;have F:=qB az G;have i:Hid (w1.heap[g]? =some A/\w1.heap[w.heap.size]? =some t/\w1.heap[w.heap.size+1]? =some z):=aA ⟨aE I.o.1 G,aE I.o.2.1 G,aE I.o.2.2 G⟩;clear c0 c1 j l m v0 v1 v2 o G T;obtain⟨c0,c1,j,l,m,v0,v1,v2,o⟩:=D.o _ i.o;have bu:Hid (nN x.aDi N v=x.aDi++[(N,v)]):=aA (Vt (by rw[<-ba.o];exact R));go_upto_region 4 with (fail)
  refine cA 12 [(0,false),(1,false),(2,false),(3,false),(4,false),(5,false),(6,false),(7,false),(8,true),(9,true),(10,false),(11,false)] [(12,true)] (fun w'=>w'.heap[g]? =some A/\w'.heap[w.heap.size]? =some t/\w'.heap[w.heap.size+1]? =some z) (by kernel_rfl) (by kernel_rfl) i.o ?_;simp only[List.cons_append,List.nil_append]
  repeat (refine cU rfl (fun K c=> ?_);unfold rd;go_simp;refine c _ (fun Z h1=> ?_) ?_;(· clear c K c0 c1 j l m v0 v1 v2 o;obtain⟨c0,c1,j,l,m,v0,v1,v2,o⟩:=D.o _ h1;unfold rd;go_simp);clear c K)
  refine bG rfl (fun B d=> ?_);unfold mv;go_simp;refine d _ _ (fun _=>⟨aE i.o.1 (aB _ _).drew,aE i.o.2.1 (aB _ _).drew,aE i.o.2.2 (aB _ _).drew⟩) ?_;clear d B;refine bG rfl (fun B d=> ?_);unfold mv;refine iW (base:=base) xA bO rfl (.tmp 33) (.tmp 37) rfl _ x.aDi rfl (al.o.on bO (aC F.o (aB _ _).drew)) w1.heap.size 1 _ _ _ (N,v) rfl (aK _ _ _ rfl) ⟨rfl,bf.o,aq.o⟩ qo qe (lT bl (aC F.o (aB _ _).drew).size) ?_;intro l' bo A' c' P J q bk;have U:Hid (P.heap[g]? =some A/\P.heap[w.heap.size]? =some t/\P.heap[w.heap.size+1]? =some z):=aA ⟨gK i.o.1 (aB _ _).drew q bc.o,gK i.o.2.1 (aB _ _).drew q ab.o.1,gK i.o.2.2 (aB _ _).drew q ab.o.2⟩;have be:=aA bo.o;have aj:l'.length<=1000000:=by rw[be.o,aL];simp only[List.length_cons,List.length_nil];omega
  obtain⟨an,ao⟩:=DP (ad.o.on (aC F.o (aB _ _).drew)) C (aC F.o (aB _ _).drew) aa.o aj q J bk;refine d _ _ (fun _=>U.o) ?_;clear d B J q bk bo c0 c1 j l m v0 v1 v2 o;obtain⟨c0,c1,j,l,m,v0,v1,v2,o⟩:=D.o _ U.o
  repeat (refine cU rfl (fun K c=> ?_);unfold rd;go_simp;refine c _ (fun Z h1=> ?_) ?_;(· clear c K c0 c1 j l m v0 v1 v2 o;obtain⟨c0,c1,j,l,m,v0,v1,v2,o⟩:=D.o _ h1;unfold rd;go_simp);clear c K)
  refine bG rfl (fun B d=> ?_);unfold mv;go_simp;refine d _ _ (fun h=>absurd h qe) ?_;clear d B c0 c1 j l m v0 v1 v2 o;unfold cG;go_wp2;go_returns;have W:({x with aDi:=nN x.aDi N v}:cF)={L[k].1 with aDi:=l'}:=by rw[bu.o,<-be.o,<-ae.o]
  rw[W];exact⟨rfl,_,an.o,ao.o⟩
end Go.Proofs.YtbpimcljljlbnaaGreatDoor
