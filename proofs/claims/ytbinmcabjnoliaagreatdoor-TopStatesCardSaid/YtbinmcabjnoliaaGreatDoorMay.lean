/- Lemmas. -/
import Derived.Test.YtbinmcabjnoliaaGreatDoorMax
import Derived.Test.YtbinmcabjnoliaaGreatDoorMas
namespace Go.Proofs.YtbinmcabjnoliaaGreatDoor
open Go.RowKit
set_option linter.unusedVariables false
set_option linter.unusedSimpArgs false
set_option maxHeartbeats 16000000
set_option maxRecDepth 20000
theorem QDg{p:Prop}(h:p:=by
 rintro⟨h1,h2,h3⟩;exact⟨qo,qo,fun c hc=>by have:=h3 c hc;simpa using this⟩):p:=h
theorem Io(a:bY):¬a.toList<a.toList:=List.lt_irrefl _
theorem UQ{a b c:bY}(h:a.toList<b.toList)(k:b.toList<c.toList):a.toList<c.toList:=List.lt_trans h k
theorem EY{a b:bY}(h:a.toList=b.toList):a=b:=by
 rw[Lib.toList_data,Lib.toList_data] at h;exact ByteArray.ext (Array.ext' h)
theorem Ab{a b:bY}:gS a b=true↔¬b.toList<a.toList:=by unfold gS;exact decide_eq_true_iff
theorem Ox(a:bY):gS a a=true:=Ab.2 (Io a)
theorem Ip{a b:bY}:gS a b=false↔b.toList<a.toList:=by unfold gS;simp
theorem Oy{a b:bY}(h:gS a b=true)(c:a≠b):a.toList<b.toList:=by
 rcases Decidable.em (a.toList<b.toList) with h1|h1
 .exact h1
 .exact absurd (EY (List.le_antisymm (Ab.1 h) h1)) c
def jO{α:Type}(key:α->ByteArray)(l:List α):Prop:=l.Pairwise (fun a b=>(key a).toList<(key b).toList)
theorem KQ{α:Type}{key:α->ByteArray}{l:List α}(h:jO key l){k:Nat}(a:k<l.length):l.findIdx (fun c=>gS (key l[k]) (key c))=k:=by
 rw[List.findIdx_eq a];refine⟨Ox _,fun j hj=> ?_⟩;exact Ip.2 (List.pairwise_iff_getElem.1 h j k qo a hj)
theorem AI{α:Type}{key:α->ByteArray}{l:List α}(h:jO key l)(x:α)(i:Nat)(g:l.findIdx (fun c=>gS (key x) (key c))=i)(q:∀c,l[i]? =some c->key c≠key x):jO key (l.take i++[x]++l.drop i):=by
 have hle:i<=l.length:=g▸List.findIdx_le_length;have n:∀y∈l.take i,(key y).toList<(key x).toList:=by
  intro y d;obtain⟨j,hj,rfl⟩:=List.getElem_of_mem d;rw[List.length_take] at hj;rw[List.getElem_take];have:=List.not_of_lt_findIdx (p:=fun c=>gS (key x) (key c)) (xs:=l) (i:=j) qo;exact Ip.1 (by simpa using this)
 have m:∀y∈l.drop i,(key x).toList<(key y).toList:=by
  rcases Nat.lt_or_ge i l.length with k|o
  .have h1:gS (key x) (key l[i])=true:=by
    have:=List.findIdx_getElem (p:=fun c=>gS (key x) (key c)) (xs:=l) (w:=by rw[g];exact k);simpa [g] using this
   have h2:(key x).toList<(key l[i]).toList:=Oy h1 (fun e=>q l[i] (gE k) e.symm);intro y d;obtain⟨j,hj,rfl⟩:=List.getElem_of_mem d;rw[List.length_drop] at hj;rw[List.getElem_drop]
   rcases Nat.eq_zero_or_pos j with rfl|hp
   .exact h2
   .exact UQ h2 (List.pairwise_iff_getElem.1 h i (i+j) k qo qo)
  .rw[List.drop_of_length_le o];intro y d;cases d
 unfold jO;rw[List.append_assoc,List.pairwise_append];refine⟨h.sublist (List.take_sublist _ _),?_,?_⟩
 .rw[List.singleton_append,List.pairwise_cons];exact⟨m,h.sublist (List.drop_sublist _ _)⟩
 .intro a ha b f;rw[List.singleton_append,List.mem_cons] at f
  rcases f with rfl|f
  .exact n a ha
  .exact UQ (n a ha) (m b f)
theorem GG{α:Type}{key:α->ByteArray}{l m:List α}(h:jO key l)(he:m.map key=l.map key):jO key m:=by
 have h1:(l.map key).Pairwise (fun a b:ByteArray=>a.toList<b.toList):=List.pairwise_map.2 h;rw[<-he] at h1;exact(List.pairwise_map (f:=key) (R:=fun a b:ByteArray=>a.toList<b.toList)).1 h1
theorem KR{α:Type}{key:α->ByteArray}{l:List α}(h:jO key l){i:Nat}{x:α}(b:∀c,l[i]? =some c->key x=key c):jO key (l.set i x):=by
 refine GG h ?_;refine List.ext_getElem? fun j=> ?_
 rw[List.getElem?_map,List.getElem?_map,List.getElem?_set];by_cases e:i=j
 .subst e;rw[iP rfl];by_cases a:i<l.length
  .rw[iP a,gE a];exact congrArg some (b _ (gE a))
  .rw[iN a,List.getElem?_eq_none qo]
 .rw[iN e]
theorem Df{s:Sto}(h:jO cF.id s.aCQ){k:Nat}(a:k<s.aCQ.length):aW s s.aCQ[k].id=(k,true)/\eF s s.aCQ[k].id=some s.aCQ[k]:=by
 have e:=KQ h a;have b:aW s s.aCQ[k].id=(k,true):=by
  unfold aW;dsimp only;rw[e,iP a,gE a];simp
 refine⟨b,?_⟩;unfold eF;rw[b];exact gE a
theorem Vc{s:Sto}{id:bY}(h:(aW s id).2=true):∃(k:Nat) (d:k<s.aCQ.length),aW s id=(k,true)/\s.aCQ[k].id=id/\eF s id=some s.aCQ[k]/\s.aCQ.findIdx (fun c=>gS id c.id)=k:=by
 unfold aW at h;dsimp only at h;by_cases a:s.aCQ.findIdx (fun c=>gS id c.id)<s.aCQ.length
 .rw[iP a,gE a] at h;have h2:s.aCQ[s.aCQ.findIdx (fun c=>gS id c.id)].id=id:=by simpa using h
  have b:aW s id=(s.aCQ.findIdx (fun c=>gS id c.id),true):=by
   unfold aW;dsimp only;rw[iP a,gE a];simp[h2]
  refine⟨_,a,b,h2,?_,rfl⟩;unfold eF;rw[b];exact gE a
 .rw[iN a] at h;cases h
theorem Oz{s:Sto}{id:bY}(h:(aW s id).2=false):(aW s id).1=s.aCQ.findIdx (fun c=>gS id c.id)/\∀c,s.aCQ[(aW s id).1]? =some c->c.id≠id:=by
 unfold aW at h ⊢;dsimp only at h ⊢;by_cases b:s.aCQ.findIdx (fun c=>gS id c.id)<s.aCQ.length
 .rw[iP b] at h ⊢;refine⟨rfl,fun c a e=> ?_⟩;dsimp only at a;rw[a] at h;simp[e] at h
 .rw[iN b] at h ⊢;have hle:s.aCQ.findIdx (fun c=>gS id c.id)<=s.aCQ.length:=List.findIdx_le_length;refine⟨by dsimp only;omega,fun c a=> ?_⟩;dsimp only at a;rw[List.getElem?_eq_none (lR _)] at a
  cases a
theorem Ac{s:Sto}{id:bY}{c:cF}(h:eF s id=some c):∃(k:Nat) (b:k<s.aCQ.length),aW s id=(k,true)/\s.aCQ[k]=c/\c.id=id/\s.aCQ.findIdx (fun c=>gS id c.id)=k:=by
 unfold eF at h;by_cases a:(aW s id).2=true
 .obtain⟨k,b,h1,h2,h3,h4⟩:=Vc a;rw[iP a,h1] at h;dsimp only at h;rw[gE b] at h;injection h with h;exact⟨k,b,h1,h,h▸h2,h4⟩
 .rw[iN a] at h;cases h
structure lW (tick:Int) (c:cF):Prop where
 aCW:c.aCW.length<=16
 aDv:jO Prod.fst c.aCW
 aDY:∀f∈c.aCW,f.2≠bD
 aDK:∀h∈c.log,0<=h.aCZ/\h.aCZ<=tick
 order:c.log.Pairwise (fun a b=>a.aCZ<=b.aCZ)
structure uB (s:Sto):Prop where
 aCZ:0<=s.aCZ/\s.aCZ<=1099511627776
 aC2:0<=s.aC2
 few:s.aCQ.length<=64
 aC4:s.aC4.length<=64
 aDv:jO cF.id s.aCQ
 each:∀c∈s.aCQ,lW s.aCZ c
 aDw:∀r∈s.aCU,0<=r.aCZ/\r.aCZ<=s.aCZ
def vB(s:Sto):Prop:=uB s/\qL s=false
theorem lW.more{t b:Int}{c:cF}(h:lW t c)(d:t<=b):lW b c:=⟨h.aCW,h.aDv,h.aDY,fun x a=>⟨(h.aDK x a).1,qA ((h.aDK x a).2)⟩,h.order⟩
theorem wI{s:Sto}:qL s=false↔s.aCU.length<=256/\s.aCY.length<=256/\∀c∈s.aCQ,c.log.length<=256:=by
 unfold qL;rw[Bool.or_eq_false_iff,Bool.or_eq_false_iff,decide_eq_false_iff_not,decide_eq_false_iff_not,List.any_eq_false];constructor
 .exact QDg
 .exact QDg
structure gX (c d:cF):Prop where
 id:d.id=c.id
 aDj:d.aDj=c.aDj
 aDa:d.aDa=c.aDa\/gW c.aDa d.aDa=true
 log:c.log <+:d.log
 shut:c.aDa=lH->d.aCW=c.aCW
theorem gX.refl(c:cF):gX c c:=⟨rfl,rfl,.inl rfl,List.prefix_refl _,fun _=>rfl⟩
def jP(t:Int)(a:bY)(l m:List cF):Prop:=m.length=l.length/\∀(i:Nat) (c:cF),l[i]? =some c->∃L:List rS,m[i]? =some {c with log:=c.log++L}/\∀h∈L,h.aCZ=t/\h.aDo=a
theorem jP.refl(t:Int)(a:bY)(l:List cF):jP t a l l:=⟨rfl,fun i c h=>⟨[],by rw[h,List.append_nil],fun _ h=>by cases h⟩⟩
theorem jP.trans{t:Int}{a:bY}{l m n:List cF}(h:jP t a l m)(k:jP t a m n):jP t a l n:=by
 refine⟨k.1.trans h.1,fun i c j=> ?_⟩;obtain⟨L,e,f⟩:=h.2 i c j;obtain⟨M,d,g⟩:=k.2 i _ e;refine⟨L++M,by rw[d,List.append_assoc],fun x b=> ?_⟩
 rcases List.mem_append.1 b with b|b
 .exact f x b
 .exact g x b
theorem YB(s:Sto)(o:Op)(what:bY):jP s.aCZ o.aC6 s.aCQ (lV s o what).aCQ:=by
 unfold lV;dsimp only;split
 .unfold fE;dsimp only;split
  .rename_i c f;refine⟨List.length_set,fun i d a=> ?_⟩;rw[List.getElem?_set];by_cases e:s.aCQ.findIdx (fun c=>decide (c.id=o.aCX))=i
   .subst e;rw[iP rfl,iP qo];rw[f] at a;injection a with a;subst a;exact⟨[⟨s.aCZ,o.aC6,what⟩],rfl,fun h b=>by rw[List.mem_singleton] at b;rw[b];exact⟨rfl,rfl⟩⟩
   .rw[iN e];exact⟨[],by rw[a,List.append_nil],fun _ h=>by cases h⟩
  .exact jP.refl _ _ _
 .exact jP.refl _ _ _
theorem YC(o:Op)(d:Bool)(s:Sto)(x:Ob):jP s.aCZ o.aC6 s.aCQ (cZ o d s x).aCQ:=by
 unfold cZ;split
 .exact YB s o x.arg
 .split
  .exact jP.refl _ _ _
  .split<;>exact jP.refl _ _ _
theorem uO(o:Op)(d:Bool):∀(l:List Ob) (s:Sto),jP s.aCZ o.aC6 s.aCQ (l.foldl (cZ o d) s).aCQ
 | [],_=>jP.refl _ _ _
 |x::l,s=>(YC o d s x).trans (by have:=uO o d l (cZ o d s x);rwa [CN] at this)
theorem Dg{t:Int}{a:bY}{l m:List cF}(h:jP t a l m):m.map cF.id=l.map cF.id:=by
 refine List.ext_getElem? fun j=> ?_
 rw[List.getElem?_map,List.getElem?_map]
 rcases Nat.lt_or_ge j l.length with hj|hj
 .obtain⟨L,e,_⟩:=h.2 j l[j] (gE hj);rw[e,gE hj];rfl
 .rw[List.getElem?_eq_none hj,List.getElem?_eq_none (by rw[h.1];exact hj)]
theorem Dh{t:Int}{a:bY}{l m:List cF}(h:jP t a l m){d:cF}(g:d∈m):∃c∈l,∃L:List rS,d={c with log:=c.log++L}/\∀h∈L,h.aCZ=t/\h.aDo=a:=by
 obtain⟨i,b,rfl⟩:=List.getElem_of_mem g;have j:i<l.length:=by rw[<-h.1];exact b
 obtain⟨L,e,f⟩:=h.2 i l[i] (gE j);rw[gE b] at e;injection e with e;exact⟨l[i],List.getElem_mem _,L,e,f⟩
theorem OY{t:Int}{a:bY}{c:cF}{L:List rS}(h:lW t c)(f:0<=t)(d:∀h∈L,h.aCZ=t/\h.aDo=a):lW t {c with log:=c.log++L}:=by
 refine⟨h.aCW,h.aDv,h.aDY,fun x b=> ?_,?_⟩
 .rcases List.mem_append.1 b with b|b
  .exact h.aDK x b
  .rw[(d x b).1];exact⟨f,Int.le_refl _⟩
 .rw[List.pairwise_append];refine⟨h.order,?_,fun x b y g=> ?_⟩
  .refine List.pairwise_iff_getElem.2 fun i j e hj _=> ?_
   rw[(d _ (List.getElem_mem e)).1,(d _ (List.getElem_mem hj)).1];exact Int.le_refl _
  .rw[(d y g).1];exact(h.aDK x b).2
def jF(a b:List vU)(tick:Int):Prop:=∃l,b=a++l/\∀r∈l,r.aCZ=tick/\r.open_=true
theorem jF.refl(a:List vU)(t:Int):jF a a t:=⟨[],qs,fun n h=>absurd h qs⟩
theorem jF.trans{a b c:List vU}{t:Int}(h:jF a b t)(k:jF b c t):jF a c t:=by
 exact QCa
theorem OZ(s:Sto)(o:Op)(r:bY):jF s.aCU (gB s o r).aCU s.aCZ:=⟨_,rfl,fun n a=>by rw[List.mem_singleton] at a;rw[a];exact⟨rfl,rfl⟩⟩
theorem Iq(o:Op)(d:Bool)(s:Sto)(x:Ob):jF s.aCU (cZ o d s x).aCU s.aCZ:=by
 unfold cZ;split
 .rw[(UP _ _ _).2];exact jF.refl _ _
 .split
  .exact OZ _ _ _
  .split<;>exact jF.refl _ _
theorem GH(o:Op)(d:Bool):∀(l:List Ob) (s:Sto),jF s.aCU (l.foldl (cZ o d) s).aCU s.aCZ
 | [],_=>jF.refl _ _
 |x::l,s=>(Iq o d s x).trans (by have:=GH o d l (cZ o d s x);rwa [CN] at this)
theorem tB(g:Bool)(s:Sto)(o:Op)(r:bY):(if g=true then gB s o r else s).aCQ=s.aCQ:=by split<;>rfl
theorem QX(g:Bool)(s:Sto)(o:Op)(r:bY):jF s.aCU (if g=true then gB s o r else s).aCU s.aCZ:=by
 split
 .exact OZ _ _ _
 .exact jF.refl _ _
theorem UR{a b:List vU}{t:Int}(h:jF a b t)(e:0<=t)(ha:∀r∈a,0<=r.aCZ/\r.aCZ<=t):∀r∈b,0<=r.aCZ/\r.aCZ<=t:=by
 obtain⟨l,rfl,d⟩:=h;intro r c
 rcases List.mem_append.1 c with c|c
 .exact ha r c
 .rw[(d r c).1];exact⟨e,Int.le_refl _⟩
theorem Ir{s:Sto}(h:uB s)(g:Bool)(o:Op)(r:bY):uB (if g=true then gB s o r else s):=by
 have h1:=UR (QX g s o r) h.aCZ.1 h.aDw;have a:=uM g s o r;have c:=gR g s o r;have b:=tB g s o r;exact⟨by rw[a];exact h.aCZ,by rw[c.2];exact h.aC2,by rw[b];exact h.few,by rw[c.1];exact h.aC4,by rw[b];exact h.aDv,by rw[b,a];exact h.each,by rw[a];exact h1⟩
theorem Di{s:Sto}(h:uB s)(o:Op)(d:Bool)(l:List Ob):uB (l.foldl (cZ o d) s):=by
 have a:=xT o d l s;have f:=mV o d l s;have e:=uO o d l s;refine⟨by rw[a];exact h.aCZ,by rw[f.2];exact h.aC2,by rw[e.1];exact h.few,by rw[f.1];exact h.aC4,GG h.aDv (Dg e),?_,?_⟩
 .intro c j;obtain⟨b,i,L,rfl,g⟩:=Dh e j;rw[a];exact OY (h.each b i) h.aCZ.1 g
 .rw[a];exact UR (GH o d l s) h.aCZ.1 h.aDw
theorem QDh{p:Prop}(h:p:=by
 simp only[aL,List.length_singleton,List.length_take,List.length_drop];omega):p:=h
def nQ(l:List (ByteArray×V3))(name:bY)(v:V3):List (ByteArray×V3):=
 let i:=l.findIdx (fun f=>gS name f.1)
 match l[i]? with
 |none=>l++[(name,v)]
 |some f=>if f.1=name then l.set i (name,v) else l.take i++[(name,v)]++l.drop i
theorem xJ(c:cF)(name:bY)(v:V3):nV c name v={c with aCW:=nQ c.aCW name v}:=by
 unfold nV nQ;dsimp only
 cases c.aCW[c.aCW.findIdx (fun f=>gS name f.1)]? with
 |none=>rfl
 |some f=>dsimp only;split<;>rfl
theorem Pb{l:List (ByteArray×V3)}{name:bY}{v:V3}{f:ByteArray×V3}(h:f∈nQ l name v):f∈l\/f=(name,v):=by
 unfold nQ at h;dsimp only at h;split at h
 .rcases List.mem_append.1 h with h|h
  .exact .inl h
  .exact .inr (by simpa using h)
 .split at h
  .rcases List.mem_or_eq_of_mem_set h with h|h
   .exact .inl h
   .exact .inr h
  .rw[List.append_assoc,List.mem_append,List.mem_append] at h
   rcases h with h|h|h
   .exact .inl (List.mem_of_mem_take h)
   .exact .inr (by simpa using h)
   .exact .inl (List.mem_of_mem_drop h)
theorem Is{l:List (ByteArray×V3)}(h:jO Prod.fst l)(name:bY)(v:V3):jO Prod.fst (nQ l name v):=by
 unfold nQ;dsimp only;split
 .rename_i d;have hle:l.findIdx (fun f=>gS name f.1)<=l.length:=List.findIdx_le_length;have e:l.length<=l.findIdx (fun f=>gS name f.1):=List.getElem?_eq_none_iff.1 d;have:=AI h (name,v) l.length (by show l.findIdx (fun c=>gS name c.1)=_;omega) (fun c a=>by rw[List.getElem?_eq_none (lR _)] at a;cases a);rwa [List.take_length,List.drop_length,List.append_nil] at this
 .rename_i f b;split
  .rename_i he;exact KR h (fun c a=>by rw[b] at a;injection a with a;rw[<-a];exact he.symm)
  .rename_i he;exact AI h (name,v) _ rfl (fun c a=>by
    have:l[l.findIdx (fun f=>gS name f.1)]? =some c:=a;rw[b] at this;injection this with this;rw[<-this];exact he)
theorem YD{l:List (ByteArray×V3)}(h:jO Prod.fst l){f:ByteArray×V3}(b:f∈l):l[l.findIdx (fun g=>gS f.1 g.1)]? =some f:=by
 obtain⟨k,a,rfl⟩:=List.getElem_of_mem b;have:=KQ (key:=Prod.fst) h a;rw[this];exact gE a
theorem Pc{l:List (ByteArray×V3)}(h:jO Prod.fst l)(name:bY)(v:V3)(a:l.length<=16)(c:16<=l.length->∃f∈l,f.1=name):(nQ l name v).length<=16:=by
 by_cases h16:16<=l.length
 .obtain⟨f,b,rfl⟩:=c h16;have e:=YD h b;unfold nQ;dsimp only;rw[e];dsimp only;rw[iP rfl,List.length_set];exact a
 .unfold nQ;dsimp only;split
  .rw[aL,List.length_singleton];omega
  .split
   .rw[List.length_set];exact a
   .rw[aL,aL,List.length_singleton,List.length_take,List.length_drop];omega
theorem Dj{c:cF}{name:bY}(h:gI c name≠bD):∃f∈c.aCW,f.1=name:=by
 unfold gI at h
 cases a:c.aCW.find? (fun f=>decide (f.1=name)) with
 |none=>rw[a] at h;exact absurd rfl h
 |some f=>exact⟨f,List.mem_of_find?_eq_some a,by simpa using List.find?_some a⟩
theorem QY{o:Op}(h:gP o=true)(a:o.aCR=3):o.val≠bD:=by
 unfold gP at h;split at h
 .cases h
 split at h
 .cases h
 unfold fW at h;dsimp only at h;rw[iN qo,iN qo,iP a] at h;simp only[Bool.and_eq_true,decide_eq_true_eq] at h;exact h.1.2
theorem rZ{o:Op}(h:gP o=true)(a:o.aCR=8):0<o.aDd/\o.aDd<=1099511627776:=by
 unfold gP at h;split at h
 .cases h
 split at h
 .cases h
 unfold fW at h;dsimp only at h;rw[iN qo,iN qo,iN qo,iN qo,iN qo,iN qo,iP a] at h;simp only[Bool.and_eq_true,decide_eq_true_eq] at h;exact h.1
theorem AJ{s:Sto}{o:Op}(h:iH s o=0):∃c,eF s o.aCX=some c/\¬(o.aCR=3/\16<=c.aCW.length/\gI c o.aDc=bD)/\¬(o.aCR≠2/\256<=c.log.length)/\¬((o.aCR=3/\c.aDa=lH)\/(o.aCR=4/\gW c.aDa o.to_=false)):=by
 unfold iH at h
 cases a:eF s o.aCX with
 |none=>rw[a] at h;exact absurd (show (10:Int)=0 from h) qe
 |some c=>
  rw[a] at h;dsimp only at h;refine⟨c,rfl,?_⟩;split at h
  .cases h
  rename_i h1;split at h
  .cases h
  rename_i h2;split at h
  .cases h
  rename_i h3;exact⟨h1,h2,h3⟩
theorem AK{s:Sto}{o:Op}(h:dR s o=0):gP o=true/\(o.aCR=1->(aW s o.aCX).2=false/\s.aCQ.length<64)/\(o.aCR=2\/o.aCR=3\/o.aCR=4->iH s o=0)/\(o.aCR=5->iS s o=0)/\(o.aCR=6->¬(64<=s.aC4.length/\rT s o.aCX o.aDc=false))/\(o.aCR=8->s.aCZ<=1099511627776 - o.aDd):=by
 have b:=lI h;unfold dR at h;rw[b,iN qe] at h;refine⟨b,fun a=> ?_,fun a=> ?_,fun a=> ?_,fun a=> ?_,fun a=> ?_⟩
 .rw[iP a] at h;split at h
  .cases h
  rename_i h1;split at h
  .cases h
  exact⟨by simpa using h1,qo⟩
 .rw[iN qo,iP a] at h;exact h
 .rw[iN qo,iN qo,iP a] at h;exact h
 .rw[iN qo,iN qo,iN qo,iP a] at h;split at h
  .cases h
  rename_i h1;exact h1
 .rw[iN qo,iN qo,iN qo,iN qo,iP a] at h;split at h
  .cases h
  omega
theorem MZ{s:Sto}{c:cF}(h:lW s.aCZ c)(e:0<=s.aCZ)(a b:bY):lW s.aCZ (oC s c a b):=OY h e (L:=[⟨s.aCZ,a,b⟩]) (a:=a) (fun x d=>by rw[List.mem_singleton] at d;rw[d];exact⟨rfl,rfl⟩)
theorem KS{s:Sto}{i:Nat}{f:cF->cF}{d:cF}(h:d∈(fE s i f).aCQ):d∈s.aCQ\/∃c,s.aCQ[i]? =some c/\d=f c:=by
 unfold fE at h;dsimp only at h;split at h
 .rename_i c a
  rcases List.mem_or_eq_of_mem_set h with h|h
  .exact .inl h
  .exact .inr ⟨c,a,h⟩
 .exact .inl h
theorem YE{s:Sto}{i:Nat}{f:cF->cF}(h:jO cF.id s.aCQ)(e:∀c,s.aCQ[i]? =some c->(f c).id=c.id):jO cF.id (fE s i f).aCQ:=by
 unfold fE;dsimp only;split
 .rename_i c b;exact KR h (fun d a=>by rw[b] at a;injection a with a;rw[<-a];exact e c b)
 .exact h
theorem AM(s:Sto)(i:Nat)(f:cF->cF):(fE s i f).aCQ.length=s.aCQ.length:=by
 unfold fE;dsimp only;split
 .exact List.length_set
 .rfl
def kO(s t:Sto):Prop:=s.aCQ.length<=t.aCQ.length/\∀c∈s.aCQ,∃d∈t.aCQ,gX c d
theorem kO.refl(s:Sto):kO s s:=⟨lR _,fun c a=>⟨c,a,gX.refl c⟩⟩
theorem Pd{s:Sto}{i:Nat}{f:cF->cF}(g:∀c,s.aCQ[i]? =some c->gX c (f c)):kO s (fE s i f):=by
 refine⟨by rw[AM];exact lR _,fun c d=> ?_⟩;obtain⟨k,b,rfl⟩:=List.getElem_of_mem d;unfold fE;dsimp only;split
 .rename_i c a;by_cases e:i=k
  .subst e;rw[gE b] at a;injection a with a;subst a;exact⟨_,List.mem_set b _,g _ (gE b)⟩
  .exact⟨s.aCQ[k],List.mem_iff_getElem.2 ⟨k,by rw[List.length_set];exact b,by rw[List.getElem_set_ne e]⟩,gX.refl _⟩
 .exact⟨_,d,gX.refl _⟩
theorem US{s:Sto}{id:bY}{c d:cF}(h:eF s id=some c)(a:s.aCQ[(aW s id).1]? =some d):d=c:=by
 obtain⟨k,f,b,e,_⟩:=Ac h;rw[b] at a;dsimp only at a;rw[gE f,e] at a;injection a with a;exact a.symm
theorem UT{s:Sto}(o:Op)(h:uB s):uB (dI s o)/\kO s (dI s o):=by
 unfold dI;by_cases h0:dR s o=0
 case neg=>rw[iP h0];exact⟨h,kO.refl s⟩
 rw[iN (fun j=>j h0)];obtain⟨d,B,p,G,C,D⟩:=AK h0;dsimp only;by_cases h1:o.aCR=1
 .rw[iP h1];obtain⟨h2,h3⟩:=B h1;obtain⟨n,w⟩:=Oz h2;have E:lW s.aCZ (oC s ⟨o.aCX,o.aC6,zP,[],[]⟩ o.aC6 (str "new")):=
   MZ (c:=⟨o.aCX,o.aC6,zP,[],[]⟩) ⟨qs,List.Pairwise.nil,(fun f d=>by cases d),(fun x b=>by cases b),List.Pairwise.nil⟩ h.aCZ.1 _ _
  have hle:(aW s o.aCX).1<=s.aCQ.length:=by rw[n];exact List.findIdx_le_length
  refine⟨⟨h.aCZ,h.aC2,?_,h.aC4,?_,?_,h.aDw⟩,?_,?_⟩
  .exact QDh
  .exact AI (key:=cF.id) h.aDv _ _ n.symm w
  .intro c a;simp only[List.append_assoc,List.mem_append,List.mem_singleton] at a
   rcases a with a|rfl|a
   .exact h.each c (List.mem_of_mem_take a)
   .exact E
   .exact h.each c (List.mem_of_mem_drop a)
  .exact QDh
  .intro c a;refine⟨c,?_,gX.refl c⟩;simp only[List.append_assoc,List.mem_append,List.mem_singleton];have:c∈s.aCQ.take (aW s o.aCX).1++s.aCQ.drop (aW s o.aCX).1:=by rw[List.take_append_drop];exact a
   rcases List.mem_append.1 this with h|h
   .exact .inl h
   .exact .inr (.inr h)
 rw[iN h1];have q:∀f:cF->cF,(∀c,s.aCQ[(aW s o.aCX).1]? =some c->lW s.aCZ c->lW s.aCZ (f c)/\gX c (f c))->uB (fE s (aW s o.aCX).1 f)/\kO s (fE s (aW s o.aCX).1 f):=by
  intro f z;have hm:∀c,s.aCQ[(aW s o.aCX).1]? =some c->lW s.aCZ (f c)/\gX c (f c):=fun c a=>z c a (h.each c (List.mem_of_getElem? a))
  refine⟨⟨h.aCZ,h.aC2,by rw[AM];exact h.few,h.aC4,YE h.aDv (fun c a=>(hm c a).2.id),fun c a=> ?_,h.aDw⟩,Pd (fun c a=>(hm c a).2)⟩
  rcases KS a with a|⟨v,y,rfl⟩
  .exact h.each c a
  .exact(hm v y).1
 by_cases h3:o.aCR=3
 .rw[iP h3];obtain⟨c0,g,t,F,m⟩:=AJ (p (.inr (.inl h3)));refine q _ fun c a hm=> ?_
  obtain rfl:=US g a;rw[xJ];have k:lW s.aCZ {c with aCW:=nQ c.aCW o.aDc o.val}:=by
   refine⟨Pc hm.aDv _ _ hm.aCW (fun h16=>Dj (fun e=>t ⟨h3,h16,e⟩)),Is hm.aDv _ _,fun f i=> ?_,hm.aDK,hm.order⟩
   rcases Pb i with i|rfl
   .exact hm.aDY f i
   .exact QY d h3
  exact⟨MZ k h.aCZ.1 _ _,⟨rfl,rfl,.inl rfl,List.prefix_append _ _,fun a=>absurd (.inl ⟨h3,a⟩) m⟩⟩
 rw[iN h3];by_cases h4:o.aCR=4
 .rw[iP h4];obtain⟨c0,g,t,F,m⟩:=AJ (p (.inr (.inr h4)));refine q _ fun c a hm=> ?_
  obtain rfl:=US g a;have k:lW s.aCZ {c with aDa:=o.to_}:=⟨hm.aCW,hm.aDv,hm.aDY,hm.aDK,hm.order⟩;refine⟨MZ k h.aCZ.1 _ _,⟨rfl,rfl,.inr ?_,List.prefix_append _ _,fun _=>rfl⟩⟩;show gW c.aDa o.to_=true
  cases A:gW c.aDa o.to_
  .exact absurd (.inr ⟨h4,A⟩) m
  .rfl
 rw[iN h4];by_cases h5:o.aCR=5
 .rw[iP h5];refine⟨⟨h.aCZ,h.aC2,h.few,h.aC4,h.aDv,h.each,?_⟩,lR _,fun c a=>⟨c,a,gX.refl c⟩⟩;dsimp only;split
  .rename_i r l;intro x b
   rcases List.mem_or_eq_of_mem_set b with b|rfl
   .exact h.aDw x b
   .exact h.aDw r (List.mem_of_getElem? l)
  .exact h.aDw
 rw[iN h5];by_cases h6:o.aCR=6
 .rw[iP h6];split
  .exact⟨h,kO.refl s⟩
  .rename_i j;have:=C h6;refine⟨⟨h.aCZ,h.aC2,h.few,?_,h.aDv,h.each,h.aDw⟩,lR _,fun c a=>⟨c,a,gX.refl c⟩⟩;simp only[aL,List.length_singleton];have h7:rT s o.aCX o.aDc=false:=by simpa using j
   have h8:¬64<=s.aC4.length:=fun h=>this ⟨h,h7⟩
   omega
 rw[iN h6];by_cases h7:o.aCR=7
 .rw[iP h7];split
  .exact⟨⟨h.aCZ,by have:=h.aC2;show 0<=s.aC2+1;omega,h.few,h.aC4,h.aDv,h.each,h.aDw⟩,lR _,fun c a=>⟨c,a,gX.refl c⟩⟩
  .exact⟨h,kO.refl s⟩
 rw[iN h7];by_cases h8:o.aCR=8
 .rw[iP h8];have h9:=D h8;have h10:=rZ d h8;have h11:=h.aCZ;refine⟨⟨⟨by show 0<=s.aCZ+o.aDd;omega,by show s.aCZ+o.aDd<=_;omega⟩,h.aC2,h.few,h.aC4,h.aDv,fun c a=>(h.each c a).more (by show s.aCZ<=s.aCZ+o.aDd;omega),fun r l=> ?_⟩,lR _,fun c a=>⟨c,a,gX.refl c⟩⟩;have:=h.aDw r l;exact⟨this.1,by show r.aCZ<=s.aCZ+o.aDd;omega⟩
 rw[iN h8];exact⟨h,kO.refl s⟩
theorem Dk{s t u:Sto}{k:Int}{a:bY}(h:kO s t)(f:jP k a t.aCQ u.aCQ):kO s u:=by
 refine⟨by rw[f.1];exact h.1,fun c g=> ?_⟩;obtain⟨d,j,b⟩:=h.2 c g;obtain⟨i,l,rfl⟩:=List.getElem_of_mem j;obtain⟨L,e,_⟩:=f.2 i _ (gE l);exact⟨_,List.mem_of_getElem? e,⟨b.id,b.aDj,b.aDa,b.log.trans (List.prefix_append _ _),b.shut⟩⟩
theorem YF(g:Bool)(s:Sto)(o:Op)(r:bY):kO s (if g=true then gB s o r else s):=by
 split
 .exact⟨lR _,fun c a=>⟨c,a,gX.refl c⟩⟩
 .exact kO.refl s
theorem Dl{s t u:Sto}(h:t.aCQ=s.aCQ)(k:kO t u):kO s u:=by
 refine⟨by rw[<-h];exact k.1,fun c a=>k.2 c (by rw[h];exact a)⟩
theorem DN(s:Sto)(o:Op)(h:vB s):vB (cY s o).1/\kO s (cY s o).1:=by
 have hw:=nK s o
 rcases a:cY s o with ⟨t,r,d,e⟩
 rw[a] at hw
 cases hw with
 |none _ _ he j _=>exact⟨h,kO.refl s⟩
 |some m l glass hidden v k i g c b f n=>
  dsimp only;have hm:=Ir h.1 glass o o.aDf;refine⟨⟨?_,b⟩,?_⟩
  .refine Di ?_ o _ l;split
   .exact(UT o hm).1
   .exact hm
  .refine Dk ?_ (uO o _ l _);split
   .exact Dl (tB glass s o o.aDf) (UT o hm).2
   .exact YF glass s o o.aDf
theorem Yf:vB mQ:=⟨⟨⟨qe,qe⟩,qe,qe,qe,List.Pairwise.nil,(fun c a=>by cases a),(fun r b=>by cases b)⟩,rfl⟩
theorem bC.aEa{K:nP}{base:Nat}{w:World}{s:Sto}{L:List Mix}{ro:Option Value}{c:oD}{n f:Nat}{vr vn vo vt vu vk vb:Value}(h:bC K base w s L ro (.slice c n f) vr vn vo vt vu vk vb){k:Nat}(a:k<L.length)(o:L[k].2.1.isSome=true):
 ∃g la lc,c=some ⟨g,0,none⟩/\L[k].2.1=some (.slice la L[k].1.aCW.length lc)/\w.cell? ⟨g,k * 5+3,none⟩=some (.slice la L[k].1.aCW.length lc)/\base<=g/\g<w.heap.size/\aM kM 4 57 w base (fun _=>False) (.slice la L[k].1.aCW.length lc) L[k].1.aCW/\some g≠(Value.slice la L[k].1.aCW.length lc).ownBlock/\(∀i,w.frozen? ⟨g,i,none⟩=false)/\¬K g:=by
 obtain⟨g,r,e,h1,h2,hm,j,l⟩:=h.aCQ.at (dO base K) a qe;obtain⟨z,A,rfl,p,q,t,d,p5⟩:=hm;obtain⟨v,b⟩:=Option.isSome_iff_exists.1 o;have m:=(kD h.aCQ a).1 v b;rw[b] at d;obtain⟨rfl,q1,x,y⟩:=d;obtain⟨la,lc,rfl⟩:=q1.slice;subst e;exact⟨g,la,lc,rfl,b,j 3 _ rfl,h1,h2,q1,fun e=>m.2.1 g e.symm rfl,l,fun a=>(h.kept g a).2.1 rfl⟩
theorem DO{K:nP}{base:Nat}{w d c:World}{s:Sto}{L:List Mix}{ro:Option Value}{g n l:Nat}{vr vn vo vt vu vk vb:Value}{k:Nat}(a:bC K base d s L ro (.slice (some ⟨g,0,none⟩) n l) vr vn vo vt vu vk vb)(i:k<L.length)(t:Below w.heap.size w d){v v':Value}(j:L[k].2.1=some v){l':List oH}(q:l'.length<=1000000)(m:d.grownBy c v.ownBlock)(o:aM kM 4 57 c base (fun _=>False) v' l')(p:v'.ownBlock=v.ownBlock\/v'.ownBlock=some d.heap.size):
 Hid (bC K base (c.setCell ⟨g,k * 5+3,none⟩ v') {s with aCQ:=s.aCQ.set k {L[k].1 with aCW:=l'}} (L.set k ({L[k].1 with aCW:=l'},some v',L[k].2.2)) ro (.slice (some ⟨g,0,none⟩) n l) vr vn vo vt vu vk vb)/\Hid (aN (fun b=>b<base\/K b) w (c.setCell ⟨g,k * 5+3,none⟩ v')):=by
 have r:=(kD a.aCQ i).1 v j;have x:=a.aCQ.lt g rfl;exact⟨a.aCW i j m o (yP p (lR _)) q,((aJ t).trans ((cW m).mono (fun b _ f e=>f.elim (fun h=>qA ((r.1.lt b e.symm).1)) (fun h=>(a.aDl k i).1 b (cM.2 ⟨v,j,e.symm⟩) h)))).trans ((aI _).mono (fun b _ f e=>f.elim (fun h=>by omega) (fun h=>(a.kept b h).2.1 (by rw[e];rfl))))⟩
theorem Vd{w:World}{base:Nat}{ok:nP}{e:TypeId}{g n c k:Nat}{l:List oH}(h:aM kM 4 e w base ok (.slice (some ⟨g,0,none⟩) n c) l)(b:k<l.length){N:bY}{v:V3}(m:l[k].1=N)(d:cS v):
 aM kM 4 e (((w.setCell ⟨g,k * 4+1,none⟩ (.int .i64 v.1)).setCell ⟨g,k * 4+2,none⟩ (.int .i64 v.2.1)).setCell ⟨g,k * 4+3,none⟩ (.string v.2.2)) base ok (.slice (some ⟨g,0,none⟩) n c) (l.set k (N,v)):=by
 have h1:=aM.setAt bL (j:=1) (x:= .int .i64 v.1) (y:=(l[k].1,(v.1,l[k].2.2))) h b qe (by rintro r ⟨rfl,a⟩;exact⟨rfl,a.1,d.1,a.2.2⟩);have f:(l.set k (l[k].1,(v.1,l[k].2.2)))[k]'(by rw[List.length_set];exact b)=(l[k].1,(v.1,l[k].2.2)):=List.getElem_set_self _;have h2:=aM.setAt bL (j:=2) (x:= .int .i64 v.2.1) (y:=(l[k].1,(v.1,v.2.1,l[k].2.2.2))) h1 (by rw[List.length_set];exact b) qe (by rw[f];rintro r ⟨rfl,a⟩;exact⟨rfl,a.1,d.1,d.2.1,a.2.2.2⟩);rw[List.set_set] at h2;have i:(l.set k (l[k].1,(v.1,v.2.1,l[k].2.2.2)))[k]'(by rw[List.length_set];exact b)=(l[k].1,(v.1,v.2.1,l[k].2.2.2)):=List.getElem_set_self _;have h3:=aM.setAt bL (j:=3) (x:= .string v.2.2) (y:=(l[k].1,v)) h2 (by rw[List.length_set];exact b) qe (by rw[i];rintro r ⟨rfl,a⟩;exact⟨rfl,a.1,d⟩);rw[List.set_set,m] at h3;exact h3
theorem UU{w w':World}{base i:Nat}{v:Value}{l:List oH}{xs:List Value}{x:oH}(g:EM x)(d:i<=l.length)(h:w.ownsRow base 57 4 v l.length xs/\aX (kM w (fun b=>False/\b<w.heap.size/\some b≠v.ownBlock)) xs l){A:oD}{a:Nat}(c:w'.ownsRow base 57 4 (.slice A (l.length+1) a) (l.length+1) (xs.take (i * 4)++tV x++xs.drop (i * 4))):
 aM kM 4 57 w' base (fun _=>False) (.slice A (l.length+1) a) (l.take i++[x]++l.drop i):=by
 have e:(l.take i++[x]++l.drop i).length=l.length+1:=by simp only[aL,List.length_take,List.length_drop,List.length_cons,List.length_nil];omega
 refine⟨_,by rw[e];exact c,?_⟩;have h2:aX (kM w' (fun b=>False/\b<w'.heap.size/\some b≠(Value.slice A (l.length+1) a).ownBlock)) xs l:=h.2;have h3:=h2.split (fun r x f=>bL.len f) i d;exact(h3.1.append (aX.one ⟨rfl,g⟩)).append h3.2
theorem Ve{l:List (ByteArray×V3)}{N:bY}{v:V3}(h:¬l.findIdx (fun f=>gS N f.1)<l.length):nQ l N v=l++[(N,v)]:=by
 unfold nQ;dsimp only;rw[List.getElem?_eq_none qo]
theorem Yg{l:List (ByteArray×V3)}{N:bY}{v:V3}{f:Nat}(a:f=l.findIdx (fun f=>gS N f.1))(h:f<l.length):nQ l N v=if l[f].1=N then l.set f (N,v) else l.take f++[(N,v)]++l.drop f:=by
 unfold nQ;dsimp only;rw[<-a,gE h]
end Go.Proofs.YtbinmcabjnoliaaGreatDoor
