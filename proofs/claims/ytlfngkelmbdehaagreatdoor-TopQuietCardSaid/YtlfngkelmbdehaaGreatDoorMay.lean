/- Lemmas. -/
import Derived.Test.YtlfngkelmbdehaaGreatDoorMax
namespace Go.Proofs.YtlfngkelmbdehaaGreatDoor
open Go.RowKit
set_option linter.unusedVariables false
set_option linter.unusedSimpArgs false
set_option maxHeartbeats 16000000
set_option maxRecDepth 20000
theorem FX{p:Prop}(h:p:=by
 exact⟨List.prefix_refl _,Int.le_refl _⟩):p:=h
theorem Cv(s:Sto)(o:Op)(what:bY):(lO s o what).aCR=s.aCR/\(lO s o what).aCQ=s.aCQ:=by
 unfold lO;dsimp only;split<;>exact⟨rfl,rfl⟩
theorem KJ(o:Op)(d:Bool)(s:Sto)(x:Ob):(cW o d s x).aCR=s.aCR/\(cW o d s x).aCQ=s.aCQ:=by
 unfold cW;split
 .exact Cv _ _ _
 .split
  .exact⟨rfl,rfl⟩
  .split<;>exact⟨rfl,rfl⟩
theorem mT(o:Op)(d:Bool):∀(l:List Ob) (s:Sto),(l.foldl (cW o d) s).aCR=s.aCR/\(l.foldl (cW o d) s).aCQ=s.aCQ
 | [],_=>⟨rfl,rfl⟩
 |x::l,s=>⟨(mT o d l _).1.trans (KJ o d s x).1,(mT o d l _).2.trans (KJ o d s x).2⟩
theorem gQ(g:Bool)(s:Sto)(o:Op)(r:bY):(if g=true then gA s o r else s).aCR=s.aCR/\(if g=true then gA s o r else s).aCQ=s.aCQ:=by split<;>exact⟨rfl,rfl⟩
theorem Cw(s:Sto)(o:Op):s.aCR <+:(dJ s o).aCR/\s.aCQ<=(dJ s o).aCQ:=by
 unfold dJ;dsimp only;split
 .exact FX
 split
 .exact FX
 split
 .exact FX
 split
 .exact FX
 split
 .exact FX
 split
 .split
  .exact FX
  .exact⟨List.prefix_append _ _,Int.le_refl _⟩
 split
 .split
  .exact⟨List.prefix_refl _,by show s.aCQ<=s.aCQ+1;omega⟩
  .exact FX
 split
 .exact FX
 .exact FX
theorem XV(s:Sto)(o:Op):s.aCR <+:(dE s o).1.aCR/\s.aCQ<=(dE s o).1.aCQ:=by
 have h:=pH s o
 rcases b:dE s o with ⟨t,r,d,e⟩
 rw[b] at h
 cases h with
 |none _ _ he k _=>exact⟨List.prefix_refl _,Int.le_refl _⟩
 |some m l glass hidden v n j g c i f p=>
  dsimp only;rw[(mT _ _ _ _).1,(mT _ _ _ _).2];by_cases a:(decide (m=(4,0))||glass)=true
  .rw[iP a];have h1:=Cw (if glass=true then gA s o o.aC2 else s) o;rw[(gQ glass s o o.aC2).1,(gQ glass s o o.aC2).2] at h1;exact h1
  .rw[iN a,(gQ glass s o o.aC2).1,(gQ glass s o o.aC2).2];exact FX
theorem QBY{p:Prop}(h:p:=by
 obtain⟨l,rfl,hl⟩:=h;obtain⟨m,rfl,hm⟩:=k;refine⟨l++m,by rw[List.append_assoc],fun n hn=> ?_⟩
 rcases List.mem_append.1 hn with hn|hn
 .exact hl n hn
 .exact hm n hn):p:=h
def pK(a b:List xL)(tick:Int):Prop:=∃l,b=a++l/\∀n∈l,n.aCN=tick
theorem pK.refl(a:List xL)(t:Int):pK a a t:=⟨[],qs,fun n h=>absurd h qs⟩
theorem pK.trans{a b c:List xL}{t:Int}(h:pK a b t)(k:pK b c t):pK a c t:=by
 exact QBY
theorem UI(s:Sto)(o:Op)(what:bY):(lO s o what).aCL=s.aCL/\(lO s o what).aCG=s.aCG:=by
 unfold lO;dsimp only;split<;>exact⟨rfl,rfl⟩
theorem QDf{p:Prop}(h:p:=by
 rintro⟨h1,h2,h3⟩;exact⟨qo,qo,fun c hc=>by have:=h3 c hc;simpa using this⟩):p:=h
theorem Ie(a:bY):¬a.toList<a.toList:=List.lt_irrefl _
theorem UJ{a b c:bY}(h:a.toList<b.toList)(k:b.toList<c.toList):a.toList<c.toList:=List.lt_trans h k
theorem ET{a b:bY}(h:a.toList=b.toList):a=b:=by
 rw[Lib.toList_data,Lib.toList_data] at h;exact ByteArray.ext (Array.ext' h)
theorem ZU{a b:bY}:gR a b=true↔¬b.toList<a.toList:=by unfold gR;exact decide_eq_true_iff
theorem Ol(a:bY):gR a a=true:=ZU.2 (Ie a)
theorem If{a b:bY}:gR a b=false↔b.toList<a.toList:=by unfold gR;simp
theorem Om{a b:bY}(h:gR a b=true)(c:a≠b):a.toList<b.toList:=by
 rcases Decidable.em (a.toList<b.toList) with h1|h1
 .exact h1
 .exact absurd (ET (List.le_antisymm (ZU.1 h) h1)) c
def kH{α:Type}(key:α->ByteArray)(l:List α):Prop:=l.Pairwise (fun a b=>(key a).toList<(key b).toList)
theorem Cx{α:Type}{key:α->ByteArray}{l:List α}(h:kH key l){k:Nat}(a:k<l.length):l.findIdx (fun c=>gR (key l[k]) (key c))=k:=by
 rw[List.findIdx_eq a];refine⟨Ol _,fun j hj=> ?_⟩;exact If.2 (List.pairwise_iff_getElem.1 h j k qo a hj)
theorem zZ{α:Type}{key:α->ByteArray}{l:List α}(h:kH key l)(x:α)(i:Nat)(g:l.findIdx (fun c=>gR (key x) (key c))=i)(q:∀c,l[i]? =some c->key c≠key x):kH key (l.take i++[x]++l.drop i):=by
 have hle:i<=l.length:=g▸List.findIdx_le_length;have n:∀y∈l.take i,(key y).toList<(key x).toList:=by
  intro y d;obtain⟨j,hj,rfl⟩:=List.getElem_of_mem d;rw[List.length_take] at hj;rw[List.getElem_take];have:=List.not_of_lt_findIdx (p:=fun c=>gR (key x) (key c)) (xs:=l) (i:=j) qo;exact If.1 (by simpa using this)
 have m:∀y∈l.drop i,(key x).toList<(key y).toList:=by
  rcases Nat.lt_or_ge i l.length with k|o
  .have h1:gR (key x) (key l[i])=true:=by
    have:=List.findIdx_getElem (p:=fun c=>gR (key x) (key c)) (xs:=l) (w:=by rw[g];exact k);simpa [g] using this
   have h2:(key x).toList<(key l[i]).toList:=Om h1 (fun e=>q l[i] (gE k) e.symm);intro y d;obtain⟨j,hj,rfl⟩:=List.getElem_of_mem d;rw[List.length_drop] at hj;rw[List.getElem_drop]
   rcases Nat.eq_zero_or_pos j with rfl|hp
   .exact h2
   .exact UJ h2 (List.pairwise_iff_getElem.1 h i (i+j) k qo qo)
  .rw[List.drop_of_length_le o];intro y d;cases d
 unfold kH;rw[List.append_assoc,List.pairwise_append];refine⟨h.sublist (List.take_sublist _ _),?_,?_⟩
 .rw[List.singleton_append,List.pairwise_cons];exact⟨m,h.sublist (List.drop_sublist _ _)⟩
 .intro a ha b f;rw[List.singleton_append,List.mem_cons] at f
  rcases f with rfl|f
  .exact n a ha
  .exact UJ (n a ha) (m b f)
theorem FY{α:Type}{key:α->ByteArray}{l m:List α}(h:kH key l)(he:m.map key=l.map key):kH key m:=by
 have h1:(l.map key).Pairwise (fun a b:ByteArray=>a.toList<b.toList):=List.pairwise_map.2 h;rw[<-he] at h1;exact(List.pairwise_map (f:=key) (R:=fun a b:ByteArray=>a.toList<b.toList)).1 h1
theorem KK{α:Type}{key:α->ByteArray}{l:List α}(h:kH key l){i:Nat}{x:α}(b:∀c,l[i]? =some c->key x=key c):kH key (l.set i x):=by
 refine FY h ?_;refine List.ext_getElem? fun j=> ?_
 rw[List.getElem?_map,List.getElem?_map,List.getElem?_set];by_cases e:i=j
 .subst e;rw[iP rfl];by_cases a:i<l.length
  .rw[iP a,gE a];exact congrArg some (b _ (gE a))
  .rw[iN a,List.getElem?_eq_none qo]
 .rw[iN e]
theorem Us{s:Sto}{id:bY}(h:(aW s id).2=true):∃(k:Nat) (d:k<s.aCD.length),aW s id=(k,true)/\s.aCD[k].id=id/\eR s id=some s.aCD[k]/\s.aCD.findIdx (fun c=>gR id c.id)=k:=by
 unfold aW at h;dsimp only at h;by_cases a:s.aCD.findIdx (fun c=>gR id c.id)<s.aCD.length
 .rw[iP a,gE a] at h;have h2:s.aCD[s.aCD.findIdx (fun c=>gR id c.id)].id=id:=by simpa using h
  have b:aW s id=(s.aCD.findIdx (fun c=>gR id c.id),true):=by
   unfold aW;dsimp only;rw[iP a,gE a];simp[h2]
  refine⟨_,a,b,h2,?_,rfl⟩;unfold eR;rw[b];exact gE a
 .rw[iN a] at h;cases h
theorem On{s:Sto}{id:bY}(h:(aW s id).2=false):(aW s id).1=s.aCD.findIdx (fun c=>gR id c.id)/\∀c,s.aCD[(aW s id).1]? =some c->c.id≠id:=by
 unfold aW at h ⊢;dsimp only at h ⊢;by_cases b:s.aCD.findIdx (fun c=>gR id c.id)<s.aCD.length
 .rw[iP b] at h ⊢;refine⟨rfl,fun c a e=> ?_⟩;dsimp only at a;rw[a] at h;simp[e] at h
 .rw[iN b] at h ⊢;have hle:s.aCD.findIdx (fun c=>gR id c.id)<=s.aCD.length:=List.findIdx_le_length;refine⟨by dsimp only;omega,fun c a=> ?_⟩;dsimp only at a;rw[List.getElem?_eq_none (lR _)] at a
  cases a
theorem ZV{s:Sto}{id:bY}{c:cF}(h:eR s id=some c):∃(k:Nat) (b:k<s.aCD.length),aW s id=(k,true)/\s.aCD[k]=c/\c.id=id/\s.aCD.findIdx (fun c=>gR id c.id)=k:=by
 unfold eR at h;by_cases a:(aW s id).2=true
 .obtain⟨k,b,h1,h2,h3,h4⟩:=Us a;rw[iP a,h1] at h;dsimp only at h;rw[gE b] at h;injection h with h;exact⟨k,b,h1,h,h▸h2,h4⟩
 .rw[iN a] at h;cases h
structure lP (tick:Int) (c:cF):Prop where
 aCJ:c.aCJ.length<=16
 aDi:kH Prod.fst c.aCJ
 aDM:∀f∈c.aCJ,f.2≠bD
 aDx:∀h∈c.log,0<=h.aCN/\h.aCN<=tick
 order:c.log.Pairwise (fun a b=>a.aCN<=b.aCN)
structure tY (s:Sto):Prop where
 aCN:0<=s.aCN/\s.aCN<=1099511627776
 aCQ:0<=s.aCQ
 few:s.aCD.length<=64
 aCR:s.aCR.length<=64
 aDi:kH cF.id s.aCD
 each:∀c∈s.aCD,lP s.aCN c
 aDj:∀r∈s.aCG,0<=r.aCN/\r.aCN<=s.aCN
def AB(s:Sto):Prop:=tY s/\qJ s=false
theorem lP.more{t b:Int}{c:cF}(h:lP t c)(d:t<=b):lP b c:=⟨h.aCJ,h.aDi,h.aDM,fun x a=>⟨(h.aDx x a).1,qA ((h.aDx x a).2)⟩,h.order⟩
theorem AD{s:Sto}:qJ s=false↔s.aCG.length<=256/\s.aCL.length<=256/\∀c∈s.aCD,c.log.length<=256:=by
 unfold qJ;rw[Bool.or_eq_false_iff,Bool.or_eq_false_iff,decide_eq_false_iff_not,decide_eq_false_iff_not,List.any_eq_false];constructor
 .exact QDf
 .exact QDf
structure iD (c d:cF):Prop where
 id:d.id=c.id
 aC6:d.aC6=c.aC6
 aCZ:d.aCZ=c.aCZ\/gV c.aCZ d.aCZ=true
 log:c.log <+:d.log
 shut:c.aCZ=nZ->d.aCJ=c.aCJ
theorem iD.refl(c:cF):iD c c:=⟨rfl,rfl,.inl rfl,List.prefix_refl _,fun _=>rfl⟩
def jO(t:Int)(a:bY)(l m:List cF):Prop:=m.length=l.length/\∀(i:Nat) (c:cF),l[i]? =some c->∃L:List tS,m[i]? =some {c with log:=c.log++L}/\∀h∈L,h.aCN=t/\h.aDd=a
theorem jO.refl(t:Int)(a:bY)(l:List cF):jO t a l l:=⟨rfl,fun i c h=>⟨[],by rw[h,List.append_nil],fun _ h=>by cases h⟩⟩
theorem jO.trans{t:Int}{a:bY}{l m n:List cF}(h:jO t a l m)(k:jO t a m n):jO t a l n:=by
 refine⟨k.1.trans h.1,fun i c j=> ?_⟩;obtain⟨L,e,f⟩:=h.2 i c j;obtain⟨M,d,g⟩:=k.2 i _ e;refine⟨L++M,by rw[d,List.append_assoc],fun x b=> ?_⟩
 rcases List.mem_append.1 b with b|b
 .exact f x b
 .exact g x b
theorem XW(s:Sto)(o:Op)(what:bY):jO s.aCN o.aCT s.aCD (lO s o what).aCD:=by
 unfold lO;dsimp only;split
 .unfold fE;dsimp only;split
  .rename_i c f;refine⟨List.length_set,fun i d a=> ?_⟩;rw[List.getElem?_set];by_cases e:s.aCD.findIdx (fun c=>decide (c.id=o.aCK))=i
   .subst e;rw[iP rfl,iP qo];rw[f] at a;injection a with a;subst a;exact⟨[⟨s.aCN,o.aCT,what⟩],rfl,fun h b=>by rw[List.mem_singleton] at b;rw[b];exact⟨rfl,rfl⟩⟩
   .rw[iN e];exact⟨[],by rw[a,List.append_nil],fun _ h=>by cases h⟩
  .exact jO.refl _ _ _
 .exact jO.refl _ _ _
theorem XX(o:Op)(d:Bool)(s:Sto)(x:Ob):jO s.aCN o.aCT s.aCD (cW o d s x).aCD:=by
 unfold cW;split
 .exact XW s o x.arg
 .split
  .exact jO.refl _ _ _
  .split<;>exact jO.refl _ _ _
theorem uK(o:Op)(d:Bool):∀(l:List Ob) (s:Sto),jO s.aCN o.aCT s.aCD (l.foldl (cW o d) s).aCD
 | [],_=>jO.refl _ _ _
 |x::l,s=>(XX o d s x).trans (by have:=uK o d l (cW o d s x);rwa [CH] at this)
theorem Cy{t:Int}{a:bY}{l m:List cF}(h:jO t a l m):m.map cF.id=l.map cF.id:=by
 refine List.ext_getElem? fun j=> ?_
 rw[List.getElem?_map,List.getElem?_map]
 rcases Nat.lt_or_ge j l.length with hj|hj
 .obtain⟨L,e,_⟩:=h.2 j l[j] (gE hj);rw[e,gE hj];rfl
 .rw[List.getElem?_eq_none hj,List.getElem?_eq_none (by rw[h.1];exact hj)]
theorem Cz{t:Int}{a:bY}{l m:List cF}(h:jO t a l m){d:cF}(g:d∈m):∃c∈l,∃L:List tS,d={c with log:=c.log++L}/\∀h∈L,h.aCN=t/\h.aDd=a:=by
 obtain⟨i,b,rfl⟩:=List.getElem_of_mem g;have j:i<l.length:=by rw[<-h.1];exact b
 obtain⟨L,e,f⟩:=h.2 i l[i] (gE j);rw[gE b] at e;injection e with e;exact⟨l[i],List.getElem_mem _,L,e,f⟩
theorem ON{t:Int}{a:bY}{c:cF}{L:List tS}(h:lP t c)(f:0<=t)(d:∀h∈L,h.aCN=t/\h.aDd=a):lP t {c with log:=c.log++L}:=by
 refine⟨h.aCJ,h.aDi,h.aDM,fun x b=> ?_,?_⟩
 .rcases List.mem_append.1 b with b|b
  .exact h.aDx x b
  .rw[(d x b).1];exact⟨f,Int.le_refl _⟩
 .rw[List.pairwise_append];refine⟨h.order,?_,fun x b y g=> ?_⟩
  .refine List.pairwise_iff_getElem.2 fun i j e hj _=> ?_
   rw[(d _ (List.getElem_mem e)).1,(d _ (List.getElem_mem hj)).1];exact Int.le_refl _
  .rw[(d y g).1];exact(h.aDx x b).2
def jF(a b:List vQ)(tick:Int):Prop:=∃l,b=a++l/\∀r∈l,r.aCN=tick/\r.open_=true
theorem jF.refl(a:List vQ)(t:Int):jF a a t:=⟨[],qs,fun n h=>absurd h qs⟩
theorem jF.trans{a b c:List vQ}{t:Int}(h:jF a b t)(k:jF b c t):jF a c t:=by
 exact QBY
theorem OO(s:Sto)(o:Op)(r:bY):jF s.aCG (gA s o r).aCG s.aCN:=⟨_,rfl,fun n a=>by rw[List.mem_singleton] at a;rw[a];exact⟨rfl,rfl⟩⟩
theorem Ig(o:Op)(d:Bool)(s:Sto)(x:Ob):jF s.aCG (cW o d s x).aCG s.aCN:=by
 unfold cW;split
 .rw[(UI _ _ _).2];exact jF.refl _ _
 .split
  .exact OO _ _ _
  .split<;>exact jF.refl _ _
theorem FZ(o:Op)(d:Bool):∀(l:List Ob) (s:Sto),jF s.aCG (l.foldl (cW o d) s).aCG s.aCN
 | [],_=>jF.refl _ _
 |x::l,s=>(Ig o d s x).trans (by have:=FZ o d l (cW o d s x);rwa [CH] at this)
theorem sY(g:Bool)(s:Sto)(o:Op)(r:bY):(if g=true then gA s o r else s).aCD=s.aCD:=by split<;>rfl
theorem QN(g:Bool)(s:Sto)(o:Op)(r:bY):jF s.aCG (if g=true then gA s o r else s).aCG s.aCN:=by
 split
 .exact OO _ _ _
 .exact jF.refl _ _
theorem UK{a b:List vQ}{t:Int}(h:jF a b t)(e:0<=t)(ha:∀r∈a,0<=r.aCN/\r.aCN<=t):∀r∈b,0<=r.aCN/\r.aCN<=t:=by
 obtain⟨l,rfl,d⟩:=h;intro r c
 rcases List.mem_append.1 c with c|c
 .exact ha r c
 .rw[(d r c).1];exact⟨e,Int.le_refl _⟩
theorem Ih{s:Sto}(h:tY s)(g:Bool)(o:Op)(r:bY):tY (if g=true then gA s o r else s):=by
 have h1:=UK (QN g s o r) h.aCN.1 h.aDj;have a:=QG g s o r;have c:=gQ g s o r;have b:=sY g s o r;exact⟨by rw[a];exact h.aCN,by rw[c.2];exact h.aCQ,by rw[b];exact h.few,by rw[c.1];exact h.aCR,by rw[b];exact h.aDi,by rw[b,a];exact h.each,by rw[a];exact h1⟩
theorem Da{s:Sto}(h:tY s)(o:Op)(d:Bool)(l:List Ob):tY (l.foldl (cW o d) s):=by
 have a:=FM o d l s;have f:=mT o d l s;have e:=uK o d l s;refine⟨by rw[a];exact h.aCN,by rw[f.2];exact h.aCQ,by rw[e.1];exact h.few,by rw[f.1];exact h.aCR,FY h.aDi (Cy e),?_,?_⟩
 .intro c j;obtain⟨b,i,L,rfl,g⟩:=Cz e j;rw[a];exact ON (h.each b i) h.aCN.1 g
 .rw[a];exact UK (FZ o d l s) h.aCN.1 h.aDj
theorem QDg{p:Prop}(h:p:=by
 simp only[aL,List.length_singleton,List.length_take,List.length_drop];omega):p:=h
def nN(l:List (ByteArray×V3))(name:bY)(v:V3):List (ByteArray×V3):=
 let i:=l.findIdx (fun f=>gR name f.1)
 match l[i]? with
 |none=>l++[(name,v)]
 |some f=>if f.1=name then l.set i (name,v) else l.take i++[(name,v)]++l.drop i
theorem xD(c:cF)(name:bY)(v:V3):nT c name v={c with aCJ:=nN c.aCJ name v}:=by
 unfold nT nN;dsimp only
 cases c.aCJ[c.aCJ.findIdx (fun f=>gR name f.1)]? with
 |none=>rfl
 |some f=>dsimp only;split<;>rfl
theorem Oo{l:List (ByteArray×V3)}{name:bY}{v:V3}{f:ByteArray×V3}(h:f∈nN l name v):f∈l\/f=(name,v):=by
 unfold nN at h;dsimp only at h;split at h
 .rcases List.mem_append.1 h with h|h
  .exact .inl h
  .exact .inr (by simpa using h)
 .split at h
  .rcases List.mem_or_eq_of_mem_set h with h|h
   .exact .inl h
   .exact .inr h
  .rw[List.append_assoc,List.mem_append,List.mem_append] at h
   rcases h with h|h|h
   .exact .inl (List.mem_of_mem_take h)
   .exact .inr (by simpa using h)
   .exact .inl (List.mem_of_mem_drop h)
theorem Ii{l:List (ByteArray×V3)}(h:kH Prod.fst l)(name:bY)(v:V3):kH Prod.fst (nN l name v):=by
 unfold nN;dsimp only;split
 .rename_i d;have hle:l.findIdx (fun f=>gR name f.1)<=l.length:=List.findIdx_le_length;have e:l.length<=l.findIdx (fun f=>gR name f.1):=List.getElem?_eq_none_iff.1 d;have:=zZ h (name,v) l.length (by show l.findIdx (fun c=>gR name c.1)=_;omega) (fun c a=>by rw[List.getElem?_eq_none (lR _)] at a;cases a);rwa [List.take_length,List.drop_length,List.append_nil] at this
 .rename_i f b;split
  .rename_i he;exact KK h (fun c a=>by rw[b] at a;injection a with a;rw[<-a];exact he.symm)
  .rename_i he;exact zZ h (name,v) _ rfl (fun c a=>by
    have:l[l.findIdx (fun f=>gR name f.1)]? =some c:=a;rw[b] at this;injection this with this;rw[<-this];exact he)
theorem XY{l:List (ByteArray×V3)}(h:kH Prod.fst l){f:ByteArray×V3}(b:f∈l):l[l.findIdx (fun g=>gR f.1 g.1)]? =some f:=by
 obtain⟨k,a,rfl⟩:=List.getElem_of_mem b;have:=Cx (key:=Prod.fst) h a;rw[this];exact gE a
theorem Oq{l:List (ByteArray×V3)}(h:kH Prod.fst l)(name:bY)(v:V3)(a:l.length<=16)(c:16<=l.length->∃f∈l,f.1=name):(nN l name v).length<=16:=by
 by_cases h16:16<=l.length
 .obtain⟨f,b,rfl⟩:=c h16;have e:=XY h b;unfold nN;dsimp only;rw[e];dsimp only;rw[iP rfl,List.length_set];exact a
 .unfold nN;dsimp only;split
  .rw[aL,List.length_singleton];omega
  .split
   .rw[List.length_set];exact a
   .rw[aL,aL,List.length_singleton,List.length_take,List.length_drop];omega
theorem Db{c:cF}{name:bY}(h:gH c name≠bD):∃f∈c.aCJ,f.1=name:=by
 unfold gH at h
 cases a:c.aCJ.find? (fun f=>decide (f.1=name)) with
 |none=>rw[a] at h;exact absurd rfl h
 |some f=>exact⟨f,List.mem_of_find?_eq_some a,by simpa using List.find?_some a⟩
theorem QO{o:Op}(h:gO o=true)(a:o.aCF=3):o.val≠bD:=by
 unfold gO at h;split at h
 .cases h
 split at h
 .cases h
 unfold fU at h;dsimp only at h;rw[iN qo,iN qo,iP a] at h;simp only[Bool.and_eq_true,decide_eq_true_eq] at h;exact h.1.2
theorem wC{o:Op}(h:gO o=true)(a:o.aCF=8):0<o.aC0/\o.aC0<=1099511627776:=by
 unfold gO at h;split at h
 .cases h
 split at h
 .cases h
 unfold fU at h;dsimp only at h;rw[iN qo,iN qo,iN qo,iN qo,iN qo,iN qo,iP a] at h;simp only[Bool.and_eq_true,decide_eq_true_eq] at h;exact h.1
theorem AE{s:Sto}{o:Op}(h:iF s o=0):∃c,eR s o.aCK=some c/\¬(o.aCF=3/\16<=c.aCJ.length/\gH c o.aCY=bD)/\¬(o.aCF≠2/\256<=c.log.length)/\¬((o.aCF=3/\c.aCZ=nZ)\/(o.aCF=4/\gV c.aCZ o.to_=false)):=by
 unfold iF at h
 cases a:eR s o.aCK with
 |none=>rw[a] at h;exact absurd (show (10:Int)=0 from h) qe
 |some c=>
  rw[a] at h;dsimp only at h;refine⟨c,rfl,?_⟩;split at h
  .cases h
  rename_i h1;split at h
  .cases h
  rename_i h2;split at h
  .cases h
  rename_i h3;exact⟨h1,h2,h3⟩
theorem AF{s:Sto}{o:Op}(h:dR s o=0):gO o=true/\(o.aCF=1->(aW s o.aCK).2=false/\s.aCD.length<64)/\(o.aCF=2\/o.aCF=3\/o.aCF=4->iF s o=0)/\(o.aCF=5->iQ s o=0)/\(o.aCF=6->¬(64<=s.aCR.length/\rQ s o.aCK o.aCY=false))/\(o.aCF=8->s.aCN<=1099511627776 - o.aC0):=by
 have b:=nU h;unfold dR at h;rw[b,iN qe] at h;refine⟨b,fun a=> ?_,fun a=> ?_,fun a=> ?_,fun a=> ?_,fun a=> ?_⟩
 .rw[iP a] at h;split at h
  .cases h
  rename_i h1;split at h
  .cases h
  exact⟨by simpa using h1,qo⟩
 .rw[iN qo,iP a] at h;exact h
 .rw[iN qo,iN qo,iP a] at h;exact h
 .rw[iN qo,iN qo,iN qo,iP a] at h;split at h
  .cases h
  rename_i h1;exact h1
 .rw[iN qo,iN qo,iN qo,iN qo,iP a] at h;split at h
  .cases h
  omega
theorem MQ{s:Sto}{c:cF}(h:lP s.aCN c)(e:0<=s.aCN)(a b:bY):lP s.aCN (oC s c a b):=ON h e (L:=[⟨s.aCN,a,b⟩]) (a:=a) (fun x d=>by rw[List.mem_singleton] at d;rw[d];exact⟨rfl,rfl⟩)
theorem KL{s:Sto}{i:Nat}{f:cF->cF}{d:cF}(h:d∈(fE s i f).aCD):d∈s.aCD\/∃c,s.aCD[i]? =some c/\d=f c:=by
 unfold fE at h;dsimp only at h;split at h
 .rename_i c a
  rcases List.mem_or_eq_of_mem_set h with h|h
  .exact .inl h
  .exact .inr ⟨c,a,h⟩
 .exact .inl h
theorem XZ{s:Sto}{i:Nat}{f:cF->cF}(h:kH cF.id s.aCD)(e:∀c,s.aCD[i]? =some c->(f c).id=c.id):kH cF.id (fE s i f).aCD:=by
 unfold fE;dsimp only;split
 .rename_i c b;exact KK h (fun d a=>by rw[b] at a;injection a with a;rw[<-a];exact e c b)
 .exact h
theorem AG(s:Sto)(i:Nat)(f:cF->cF):(fE s i f).aCD.length=s.aCD.length:=by
 unfold fE;dsimp only;split
 .exact List.length_set
 .rfl
def lQ(s t:Sto):Prop:=s.aCD.length<=t.aCD.length/\∀c∈s.aCD,∃d∈t.aCD,iD c d
theorem lQ.refl(s:Sto):lQ s s:=⟨lR _,fun c a=>⟨c,a,iD.refl c⟩⟩
theorem Ot{s:Sto}{i:Nat}{f:cF->cF}(g:∀c,s.aCD[i]? =some c->iD c (f c)):lQ s (fE s i f):=by
 refine⟨by rw[AG];exact lR _,fun c d=> ?_⟩;obtain⟨k,b,rfl⟩:=List.getElem_of_mem d;unfold fE;dsimp only;split
 .rename_i c a;by_cases e:i=k
  .subst e;rw[gE b] at a;injection a with a;subst a;exact⟨_,List.mem_set b _,g _ (gE b)⟩
  .exact⟨s.aCD[k],List.mem_iff_getElem.2 ⟨k,by rw[List.length_set];exact b,by rw[List.getElem_set_ne e]⟩,iD.refl _⟩
 .exact⟨_,d,iD.refl _⟩
theorem UL{s:Sto}{id:bY}{c d:cF}(h:eR s id=some c)(a:s.aCD[(aW s id).1]? =some d):d=c:=by
 obtain⟨k,f,b,e,_⟩:=ZV h;rw[b] at a;dsimp only at a;rw[gE f,e] at a;injection a with a;exact a.symm
theorem UM{s:Sto}(o:Op)(h:tY s):tY (dJ s o)/\lQ s (dJ s o):=by
 unfold dJ;by_cases h0:dR s o=0
 case neg=>rw[iP h0];exact⟨h,lQ.refl s⟩
 rw[iN (fun j=>j h0)];obtain⟨d,B,p,G,C,D⟩:=AF h0;dsimp only;by_cases h1:o.aCF=1
 .rw[iP h1];obtain⟨h2,h3⟩:=B h1;obtain⟨n,w⟩:=On h2;have E:lP s.aCN (oC s ⟨o.aCK,o.aCT,zI,[],[]⟩ o.aCT (str "new")):=
   MQ (c:=⟨o.aCK,o.aCT,zI,[],[]⟩) ⟨qs,List.Pairwise.nil,(fun f d=>by cases d),(fun x b=>by cases b),List.Pairwise.nil⟩ h.aCN.1 _ _
  have hle:(aW s o.aCK).1<=s.aCD.length:=by rw[n];exact List.findIdx_le_length
  refine⟨⟨h.aCN,h.aCQ,?_,h.aCR,?_,?_,h.aDj⟩,?_,?_⟩
  .exact QDg
  .exact zZ (key:=cF.id) h.aDi _ _ n.symm w
  .intro c a;simp only[List.append_assoc,List.mem_append,List.mem_singleton] at a
   rcases a with a|rfl|a
   .exact h.each c (List.mem_of_mem_take a)
   .exact E
   .exact h.each c (List.mem_of_mem_drop a)
  .exact QDg
  .intro c a;refine⟨c,?_,iD.refl c⟩;simp only[List.append_assoc,List.mem_append,List.mem_singleton];have:c∈s.aCD.take (aW s o.aCK).1++s.aCD.drop (aW s o.aCK).1:=by rw[List.take_append_drop];exact a
   rcases List.mem_append.1 this with h|h
   .exact .inl h
   .exact .inr (.inr h)
 rw[iN h1];have q:∀f:cF->cF,(∀c,s.aCD[(aW s o.aCK).1]? =some c->lP s.aCN c->lP s.aCN (f c)/\iD c (f c))->tY (fE s (aW s o.aCK).1 f)/\lQ s (fE s (aW s o.aCK).1 f):=by
  intro f z;have hm:∀c,s.aCD[(aW s o.aCK).1]? =some c->lP s.aCN (f c)/\iD c (f c):=fun c a=>z c a (h.each c (List.mem_of_getElem? a))
  refine⟨⟨h.aCN,h.aCQ,by rw[AG];exact h.few,h.aCR,XZ h.aDi (fun c a=>(hm c a).2.id),fun c a=> ?_,h.aDj⟩,Ot (fun c a=>(hm c a).2)⟩
  rcases KL a with a|⟨v,y,rfl⟩
  .exact h.each c a
  .exact(hm v y).1
 by_cases h3:o.aCF=3
 .rw[iP h3];obtain⟨c0,g,t,F,m⟩:=AE (p (.inr (.inl h3)));refine q _ fun c a hm=> ?_
  obtain rfl:=UL g a;rw[xD];have k:lP s.aCN {c with aCJ:=nN c.aCJ o.aCY o.val}:=by
   refine⟨Oq hm.aDi _ _ hm.aCJ (fun h16=>Db (fun e=>t ⟨h3,h16,e⟩)),Ii hm.aDi _ _,fun f i=> ?_,hm.aDx,hm.order⟩
   rcases Oo i with i|rfl
   .exact hm.aDM f i
   .exact QO d h3
  exact⟨MQ k h.aCN.1 _ _,⟨rfl,rfl,.inl rfl,List.prefix_append _ _,fun a=>absurd (.inl ⟨h3,a⟩) m⟩⟩
 rw[iN h3];by_cases h4:o.aCF=4
 .rw[iP h4];obtain⟨c0,g,t,F,m⟩:=AE (p (.inr (.inr h4)));refine q _ fun c a hm=> ?_
  obtain rfl:=UL g a;have k:lP s.aCN {c with aCZ:=o.to_}:=⟨hm.aCJ,hm.aDi,hm.aDM,hm.aDx,hm.order⟩;refine⟨MQ k h.aCN.1 _ _,⟨rfl,rfl,.inr ?_,List.prefix_append _ _,fun _=>rfl⟩⟩;show gV c.aCZ o.to_=true
  cases A:gV c.aCZ o.to_
  .exact absurd (.inr ⟨h4,A⟩) m
  .rfl
 rw[iN h4];by_cases h5:o.aCF=5
 .rw[iP h5];refine⟨⟨h.aCN,h.aCQ,h.few,h.aCR,h.aDi,h.each,?_⟩,lR _,fun c a=>⟨c,a,iD.refl c⟩⟩;dsimp only;split
  .rename_i r l;intro x b
   rcases List.mem_or_eq_of_mem_set b with b|rfl
   .exact h.aDj x b
   .exact h.aDj r (List.mem_of_getElem? l)
  .exact h.aDj
 rw[iN h5];by_cases h6:o.aCF=6
 .rw[iP h6];split
  .exact⟨h,lQ.refl s⟩
  .rename_i j;have:=C h6;refine⟨⟨h.aCN,h.aCQ,h.few,?_,h.aDi,h.each,h.aDj⟩,lR _,fun c a=>⟨c,a,iD.refl c⟩⟩;simp only[aL,List.length_singleton];have h7:rQ s o.aCK o.aCY=false:=by simpa using j
   have h8:¬64<=s.aCR.length:=fun h=>this ⟨h,h7⟩
   omega
 rw[iN h6];by_cases h7:o.aCF=7
 .rw[iP h7];split
  .exact⟨⟨h.aCN,by have:=h.aCQ;show 0<=s.aCQ+1;omega,h.few,h.aCR,h.aDi,h.each,h.aDj⟩,lR _,fun c a=>⟨c,a,iD.refl c⟩⟩
  .exact⟨h,lQ.refl s⟩
 rw[iN h7];by_cases h8:o.aCF=8
 .rw[iP h8];have h9:=D h8;have h10:=wC d h8;have h11:=h.aCN;refine⟨⟨⟨by show 0<=s.aCN+o.aC0;omega,by show s.aCN+o.aC0<=_;omega⟩,h.aCQ,h.few,h.aCR,h.aDi,fun c a=>(h.each c a).more (by show s.aCN<=s.aCN+o.aC0;omega),fun r l=> ?_⟩,lR _,fun c a=>⟨c,a,iD.refl c⟩⟩;have:=h.aDj r l;exact⟨this.1,by show r.aCN<=s.aCN+o.aC0;omega⟩
 rw[iN h8];exact⟨h,lQ.refl s⟩
theorem Dc{s t u:Sto}{k:Int}{a:bY}(h:lQ s t)(f:jO k a t.aCD u.aCD):lQ s u:=by
 refine⟨by rw[f.1];exact h.1,fun c g=> ?_⟩;obtain⟨d,j,b⟩:=h.2 c g;obtain⟨i,l,rfl⟩:=List.getElem_of_mem j;obtain⟨L,e,_⟩:=f.2 i _ (gE l);exact⟨_,List.mem_of_getElem? e,⟨b.id,b.aC6,b.aCZ,b.log.trans (List.prefix_append _ _),b.shut⟩⟩
theorem YA(g:Bool)(s:Sto)(o:Op)(r:bY):lQ s (if g=true then gA s o r else s):=by
 split
 .exact⟨lR _,fun c a=>⟨c,a,iD.refl c⟩⟩
 .exact lQ.refl s
theorem Dd{s t u:Sto}(h:t.aCD=s.aCD)(k:lQ t u):lQ s u:=by
 refine⟨by rw[<-h];exact k.1,fun c a=>k.2 c (by rw[h];exact a)⟩
theorem Ij(s:Sto)(o:Op)(h:AB s):AB (dE s o).1/\lQ s (dE s o).1:=by
 have hw:=pH s o
 rcases a:dE s o with ⟨t,r,d,e⟩
 rw[a] at hw
 cases hw with
 |none _ _ he j _=>exact⟨h,lQ.refl s⟩
 |some m l glass hidden v k i g c b f n=>
  dsimp only;have hm:=Ih h.1 glass o o.aC2;refine⟨⟨?_,b⟩,?_⟩
  .refine Da ?_ o _ l;split
   .exact(UM o hm).1
   .exact hm
  .refine Dc ?_ (uK o _ l _);split
   .exact Dd (sY glass s o o.aC2) (UM o hm).2
   .exact YA glass s o o.aC2
theorem Xt:AB mN:=⟨⟨⟨qe,qe⟩,qe,qe,qe,List.Pairwise.nil,(fun c a=>by cases a),(fun r b=>by cases b)⟩,rfl⟩
theorem bC.aDY{K:nP}{base:Nat}{w:World}{s:Sto}{L:List Mix}{ro:Option Value}{c:oD}{n f:Nat}{vr vn vo vt vu vk vb:Value}(h:bC K base w s L ro (.slice c n f) vr vn vo vt vu vk vb){k:Nat}(a:k<L.length)(o:L[k].2.1.isSome=true):
 ∃g la lc,c=some ⟨g,0,none⟩/\L[k].2.1=some (.slice la L[k].1.aCJ.length lc)/\w.cell? ⟨g,k * 5+3,none⟩=some (.slice la L[k].1.aCJ.length lc)/\base<=g/\g<w.heap.size/\aM lC 4 161 w base (fun _=>False) (.slice la L[k].1.aCJ.length lc) L[k].1.aCJ/\some g≠(Value.slice la L[k].1.aCJ.length lc).ownBlock/\(∀i,w.frozen? ⟨g,i,none⟩=false)/\¬K g:=by
 obtain⟨g,r,e,h1,h2,hm,j,l⟩:=h.aCD.at (dN base K) a qe;obtain⟨z,A,rfl,p,q,t,d,p5⟩:=hm;obtain⟨v,b⟩:=Option.isSome_iff_exists.1 o;have m:=(kC h.aCD a).1 v b;rw[b] at d;obtain⟨rfl,q1,x,y⟩:=d;obtain⟨la,lc,rfl⟩:=q1.slice;subst e;exact⟨g,la,lc,rfl,b,j 3 _ rfl,h1,h2,q1,fun e=>m.2.1 g e.symm rfl,l,fun a=>(h.kept g a).2.1 rfl⟩
theorem DI{K:nP}{base:Nat}{w d c:World}{s:Sto}{L:List Mix}{ro:Option Value}{g n l:Nat}{vr vn vo vt vu vk vb:Value}{k:Nat}(a:bC K base d s L ro (.slice (some ⟨g,0,none⟩) n l) vr vn vo vt vu vk vb)(i:k<L.length)(t:Below w.heap.size w d){v v':Value}(j:L[k].2.1=some v){l':List pO}(q:l'.length<=1000000)(m:d.grownBy c v.ownBlock)(o:aM lC 4 161 c base (fun _=>False) v' l')(p:v'.ownBlock=v.ownBlock\/v'.ownBlock=some d.heap.size):
 Hid (bC K base (c.setCell ⟨g,k * 5+3,none⟩ v') {s with aCD:=s.aCD.set k {L[k].1 with aCJ:=l'}} (L.set k ({L[k].1 with aCJ:=l'},some v',L[k].2.2)) ro (.slice (some ⟨g,0,none⟩) n l) vr vn vo vt vu vk vb)/\Hid (aN (fun b=>b<base\/K b) w (c.setCell ⟨g,k * 5+3,none⟩ v')):=by
 have r:=(kC a.aCD i).1 v j;have x:=a.aCD.lt g rfl;exact⟨a.aCJ i j m o (yI p (lR _)) q,((aJ t).trans ((cU m).mono (fun b _ f e=>f.elim (fun h=>qA ((r.1.lt b e.symm).1)) (fun h=>(a.aC8 k i).1 b (cM.2 ⟨v,j,e.symm⟩) h)))).trans ((aI _).mono (fun b _ f e=>f.elim (fun h=>by omega) (fun h=>(a.kept b h).2.1 (by rw[e];rfl))))⟩
theorem Ut{w:World}{base:Nat}{ok:nP}{e:TypeId}{g n c k:Nat}{l:List pO}(h:aM lC 4 e w base ok (.slice (some ⟨g,0,none⟩) n c) l)(b:k<l.length){N:bY}{v:V3}(m:l[k].1=N)(d:cR v):
 aM lC 4 e (((w.setCell ⟨g,k * 4+1,none⟩ (.int .i64 v.1)).setCell ⟨g,k * 4+2,none⟩ (.int .i64 v.2.1)).setCell ⟨g,k * 4+3,none⟩ (.string v.2.2)) base ok (.slice (some ⟨g,0,none⟩) n c) (l.set k (N,v)):=by
 have h1:=aM.setAt bP (j:=1) (x:= .int .i64 v.1) (y:=(l[k].1,(v.1,l[k].2.2))) h b qe (by rintro r ⟨rfl,a⟩;exact⟨rfl,a.1,d.1,a.2.2⟩);have f:(l.set k (l[k].1,(v.1,l[k].2.2)))[k]'(by rw[List.length_set];exact b)=(l[k].1,(v.1,l[k].2.2)):=List.getElem_set_self _;have h2:=aM.setAt bP (j:=2) (x:= .int .i64 v.2.1) (y:=(l[k].1,(v.1,v.2.1,l[k].2.2.2))) h1 (by rw[List.length_set];exact b) qe (by rw[f];rintro r ⟨rfl,a⟩;exact⟨rfl,a.1,d.1,d.2.1,a.2.2.2⟩);rw[List.set_set] at h2;have i:(l.set k (l[k].1,(v.1,v.2.1,l[k].2.2.2)))[k]'(by rw[List.length_set];exact b)=(l[k].1,(v.1,v.2.1,l[k].2.2.2)):=List.getElem_set_self _;have h3:=aM.setAt bP (j:=3) (x:= .string v.2.2) (y:=(l[k].1,v)) h2 (by rw[List.length_set];exact b) qe (by rw[i];rintro r ⟨rfl,a⟩;exact⟨rfl,a.1,d⟩);rw[List.set_set,m] at h3;exact h3
theorem UN{w w':World}{base i:Nat}{v:Value}{l:List pO}{xs:List Value}{x:pO}(g:EG x)(d:i<=l.length)(h:w.ownsRow base 161 4 v l.length xs/\aX (lC w (fun b=>False/\b<w.heap.size/\some b≠v.ownBlock)) xs l){A:oD}{a:Nat}(c:w'.ownsRow base 161 4 (.slice A (l.length+1) a) (l.length+1) (xs.take (i * 4)++tT x++xs.drop (i * 4))):
 aM lC 4 161 w' base (fun _=>False) (.slice A (l.length+1) a) (l.take i++[x]++l.drop i):=by
 have e:(l.take i++[x]++l.drop i).length=l.length+1:=by simp only[aL,List.length_take,List.length_drop,List.length_cons,List.length_nil];omega
 refine⟨_,by rw[e];exact c,?_⟩;have h2:aX (lC w' (fun b=>False/\b<w'.heap.size/\some b≠(Value.slice A (l.length+1) a).ownBlock)) xs l:=h.2;have h3:=h2.split (fun r x f=>bP.len f) i d;exact(h3.1.append (aX.one ⟨rfl,g⟩)).append h3.2
theorem Uu{l:List (ByteArray×V3)}{N:bY}{v:V3}(h:¬l.findIdx (fun f=>gR N f.1)<l.length):nN l N v=l++[(N,v)]:=by
 unfold nN;dsimp only;rw[List.getElem?_eq_none qo]
theorem Xu{l:List (ByteArray×V3)}{N:bY}{v:V3}{f:Nat}(a:f=l.findIdx (fun f=>gR N f.1))(h:f<l.length):nN l N v=if l[f].1=N then l.set f (N,v) else l.take f++[(N,v)]++l.drop f:=by
 unfold nN;dsimp only;rw[<-a,gE h]
end Go.Proofs.YtlfngkelmbdehaaGreatDoor
