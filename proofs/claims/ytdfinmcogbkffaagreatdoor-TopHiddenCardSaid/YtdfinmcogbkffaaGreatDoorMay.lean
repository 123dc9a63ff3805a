/- Lemmas. -/
import Derived.Test.YtdfinmcogbkffaaGreatDoorMax
namespace Go.Proofs.YtdfinmcogbkffaaGreatDoor
open Go.RowKit
set_option linter.unusedVariables false
set_option linter.unusedSimpArgs false
set_option maxHeartbeats 16000000
set_option maxRecDepth 20000
theorem QCc{p:Prop}(h:p:=by
 obtain⟨l,rfl,hl⟩:=h;obtain⟨m,rfl,hm⟩:=k;refine⟨l++m,by rw[List.append_assoc],fun n hn=> ?_⟩
 rcases List.mem_append.1 hn with hn|hn
 .exact hl n hn
 .exact hm n hn):p:=h
def pP(a b:List xV)(tick:Int):Prop:=∃l,b=a++l/\∀n∈l,n.aDI=tick
theorem pP.refl(a:List xV)(t:Int):pP a a t:=⟨[],qs,fun n h=>absurd h qs⟩
theorem pP.trans{a b c:List xV}{t:Int}(h:pP a b t)(k:pP b c t):pP a c t:=by
 exact QCc
theorem VG(s:Sto)(o:Op)(what:bY):(lY s o what).aDG=s.aDG/\(lY s o what).aDC=s.aDC:=by
 unfold lY;dsimp only;split<;>exact⟨rfl,rfl⟩
theorem QDi{p:Prop}(h:p:=by
 rintro⟨h1,h2,h3⟩;exact⟨qo,qo,fun c hc=>by have:=h3 c hc;simpa using this⟩):p:=h
theorem Jt(a:bY):¬a.toList<a.toList:=List.lt_irrefl _
theorem VH{a b c:bY}(h:a.toList<b.toList)(k:b.toList<c.toList):a.toList<c.toList:=List.lt_trans h k
theorem FC{a b:bY}(h:a.toList=b.toList):a=b:=by
 rw[Lib.toList_data,Lib.toList_data] at h;exact ByteArray.ext (Array.ext' h)
theorem Aw{a b:bY}:gU a b=true↔¬b.toList<a.toList:=by unfold gU;exact decide_eq_true_iff
theorem Qi(a:bY):gU a a=true:=Aw.2 (Jt a)
theorem Ju{a b:bY}:gU a b=false↔b.toList<a.toList:=by unfold gU;simp
theorem Qj{a b:bY}(h:gU a b=true)(c:a≠b):a.toList<b.toList:=by
 rcases Decidable.em (a.toList<b.toList) with h1|h1
 .exact h1
 .exact absurd (FC (List.le_antisymm (Aw.1 h) h1)) c
def jS{α:Type}(key:α->ByteArray)(l:List α):Prop:=l.Pairwise (fun a b=>(key a).toList<(key b).toList)
theorem KU{α:Type}{key:α->ByteArray}{l:List α}(h:jS key l){k:Nat}(a:k<l.length):l.findIdx (fun c=>gU (key l[k]) (key c))=k:=by
 rw[List.findIdx_eq a];refine⟨Qi _,fun j hj=> ?_⟩;exact Ju.2 (List.pairwise_iff_getElem.1 h j k qo a hj)
theorem AJ{α:Type}{key:α->ByteArray}{l:List α}(h:jS key l)(x:α)(i:Nat)(g:l.findIdx (fun c=>gU (key x) (key c))=i)(q:∀c,l[i]? =some c->key c≠key x):jS key (l.take i++[x]++l.drop i):=by
 have hle:i<=l.length:=g▸List.findIdx_le_length;have n:∀y∈l.take i,(key y).toList<(key x).toList:=by
  intro y d;obtain⟨j,hj,rfl⟩:=List.getElem_of_mem d;rw[List.length_take] at hj;rw[List.getElem_take];have:=List.not_of_lt_findIdx (p:=fun c=>gU (key x) (key c)) (xs:=l) (i:=j) qo;exact Ju.1 (by simpa using this)
 have m:∀y∈l.drop i,(key x).toList<(key y).toList:=by
  rcases Nat.lt_or_ge i l.length with k|o
  .have h1:gU (key x) (key l[i])=true:=by
    have:=List.findIdx_getElem (p:=fun c=>gU (key x) (key c)) (xs:=l) (w:=by rw[g];exact k);simpa [g] using this
   have h2:(key x).toList<(key l[i]).toList:=Qj h1 (fun e=>q l[i] (gE k) e.symm);intro y d;obtain⟨j,hj,rfl⟩:=List.getElem_of_mem d;rw[List.length_drop] at hj;rw[List.getElem_drop]
   rcases Nat.eq_zero_or_pos j with rfl|hp
   .exact h2
   .exact VH h2 (List.pairwise_iff_getElem.1 h i (i+j) k qo qo)
  .rw[List.drop_of_length_le o];intro y d;cases d
 unfold jS;rw[List.append_assoc,List.pairwise_append];refine⟨h.sublist (List.take_sublist _ _),?_,?_⟩
 .rw[List.singleton_append,List.pairwise_cons];exact⟨m,h.sublist (List.drop_sublist _ _)⟩
 .intro a ha b f;rw[List.singleton_append,List.mem_cons] at f
  rcases f with rfl|f
  .exact n a ha
  .exact VH (n a ha) (m b f)
theorem GH{α:Type}{key:α->ByteArray}{l m:List α}(h:jS key l)(he:m.map key=l.map key):jS key m:=by
 have h1:(l.map key).Pairwise (fun a b:ByteArray=>a.toList<b.toList):=List.pairwise_map.2 h;rw[<-he] at h1;exact(List.pairwise_map (f:=key) (R:=fun a b:ByteArray=>a.toList<b.toList)).1 h1
theorem KV{α:Type}{key:α->ByteArray}{l:List α}(h:jS key l){i:Nat}{x:α}(b:∀c,l[i]? =some c->key x=key c):jS key (l.set i x):=by
 refine GH h ?_;refine List.ext_getElem? fun j=> ?_
 rw[List.getElem?_map,List.getElem?_map,List.getElem?_set];by_cases e:i=j
 .subst e;rw[iP rfl];by_cases a:i<l.length
  .rw[iP a,gE a];exact congrArg some (b _ (gE a))
  .rw[iN a,List.getElem?_eq_none qo]
 .rw[iN e]
theorem Ed{s:Sto}(h:jS cG.id s.aDz){k:Nat}(a:k<s.aDz.length):aV s s.aDz[k].id=(k,true)/\dU s s.aDz[k].id=some s.aDz[k]:=by
 have e:=KU h a;have b:aV s s.aDz[k].id=(k,true):=by
  unfold aV;dsimp only;rw[e,iP a,gE a];simp
 refine⟨b,?_⟩;unfold dU;rw[b];exact gE a
theorem Wo{s:Sto}{id:bY}(h:(aV s id).2=true):∃(k:Nat) (d:k<s.aDz.length),aV s id=(k,true)/\s.aDz[k].id=id/\dU s id=some s.aDz[k]/\s.aDz.findIdx (fun c=>gU id c.id)=k:=by
 unfold aV at h;dsimp only at h;by_cases a:s.aDz.findIdx (fun c=>gU id c.id)<s.aDz.length
 .rw[iP a,gE a] at h;have h2:s.aDz[s.aDz.findIdx (fun c=>gU id c.id)].id=id:=by simpa using h
  have b:aV s id=(s.aDz.findIdx (fun c=>gU id c.id),true):=by
   unfold aV;dsimp only;rw[iP a,gE a];simp[h2]
  refine⟨_,a,b,h2,?_,rfl⟩;unfold dU;rw[b];exact gE a
 .rw[iN a] at h;cases h
theorem Qk{s:Sto}{id:bY}(h:(aV s id).2=false):(aV s id).1=s.aDz.findIdx (fun c=>gU id c.id)/\∀c,s.aDz[(aV s id).1]? =some c->c.id≠id:=by
 unfold aV at h ⊢;dsimp only at h ⊢;by_cases b:s.aDz.findIdx (fun c=>gU id c.id)<s.aDz.length
 .rw[iP b] at h ⊢;refine⟨rfl,fun c a e=> ?_⟩;dsimp only at a;rw[a] at h;simp[e] at h
 .rw[iN b] at h ⊢;have hle:s.aDz.findIdx (fun c=>gU id c.id)<=s.aDz.length:=List.findIdx_le_length;refine⟨by dsimp only;omega,fun c a=> ?_⟩;dsimp only at a;rw[List.getElem?_eq_none (lR _)] at a
  cases a
theorem Ax{s:Sto}{id:bY}{c:cG}(h:dU s id=some c):∃(k:Nat) (b:k<s.aDz.length),aV s id=(k,true)/\s.aDz[k]=c/\c.id=id/\s.aDz.findIdx (fun c=>gU id c.id)=k:=by
 unfold dU at h;by_cases a:(aV s id).2=true
 .obtain⟨k,b,h1,h2,h3,h4⟩:=Wo a;rw[iP a,h1] at h;dsimp only at h;rw[gE b] at h;injection h with h;exact⟨k,b,h1,h,h▸h2,h4⟩
 .rw[iN a] at h;cases h
structure lZ (tick:Int) (c:cG):Prop where
 aDE:c.aDE.length<=16
 aEd:jS Prod.fst c.aDE
 aEG:∀f∈c.aDE,f.2≠bD
 aEs:∀h∈c.log,0<=h.aDI/\h.aDI<=tick
 order:c.log.Pairwise (fun a b=>a.aDI<=b.aDI)
structure uI (s:Sto):Prop where
 aDI:0<=s.aDI/\s.aDI<=1099511627776
 aDL:0<=s.aDL
 few:s.aDz.length<=64
 aDM:s.aDM.length<=64
 aEd:jS cG.id s.aDz
 each:∀c∈s.aDz,lZ s.aDI c
 aEe:∀r∈s.aDC,0<=r.aDI/\r.aDI<=s.aDI
def sD(s:Sto):Prop:=uI s/\pL s=false
theorem lZ.more{t b:Int}{c:cG}(h:lZ t c)(d:t<=b):lZ b c:=⟨h.aDE,h.aEd,h.aEG,fun x a=>⟨(h.aEs x a).1,qA ((h.aEs x a).2)⟩,h.order⟩
theorem AK{s:Sto}:pL s=false↔s.aDC.length<=256/\s.aDG.length<=256/\∀c∈s.aDz,c.log.length<=256:=by
 unfold pL;rw[Bool.or_eq_false_iff,Bool.or_eq_false_iff,decide_eq_false_iff_not,decide_eq_false_iff_not,List.any_eq_false];constructor
 .exact QDi
 .exact QDi
structure iG (c d:cG):Prop where
 id:d.id=c.id
 aD2:d.aD2=c.aD2
 aDU:d.aDU=c.aDU\/gY c.aDU d.aDU=true
 log:c.log <+:d.log
 shut:c.aDU=oF->d.aDE=c.aDE
theorem iG.refl(c:cG):iG c c:=⟨rfl,rfl,.inl rfl,List.prefix_refl _,fun _=>rfl⟩
def jT(t:Int)(a:bY)(l m:List cG):Prop:=m.length=l.length/\∀(i:Nat) (c:cG),l[i]? =some c->∃L:List uC,m[i]? =some {c with log:=c.log++L}/\∀h∈L,h.aDI=t/\h.aD8=a
theorem jT.refl(t:Int)(a:bY)(l:List cG):jT t a l l:=⟨rfl,fun i c h=>⟨[],by rw[h,List.append_nil],fun _ h=>by cases h⟩⟩
theorem jT.trans{t:Int}{a:bY}{l m n:List cG}(h:jT t a l m)(k:jT t a m n):jT t a l n:=by
 refine⟨k.1.trans h.1,fun i c j=> ?_⟩;obtain⟨L,e,f⟩:=h.2 i c j;obtain⟨M,d,g⟩:=k.2 i _ e;refine⟨L++M,by rw[d,List.append_assoc],fun x b=> ?_⟩
 rcases List.mem_append.1 b with b|b
 .exact f x b
 .exact g x b
theorem YU(s:Sto)(o:Op)(what:bY):jT s.aDI o.aDO s.aDz (lY s o what).aDz:=by
 unfold lY;dsimp only;split
 .unfold fH;dsimp only;split
  .rename_i c f;refine⟨List.length_set,fun i d a=> ?_⟩;rw[List.getElem?_set];by_cases e:s.aDz.findIdx (fun c=>decide (c.id=o.aDF))=i
   .subst e;rw[iP rfl,iP qo];rw[f] at a;injection a with a;subst a;exact⟨[⟨s.aDI,o.aDO,what⟩],rfl,fun h b=>by rw[List.mem_singleton] at b;rw[b];exact⟨rfl,rfl⟩⟩
   .rw[iN e];exact⟨[],by rw[a,List.append_nil],fun _ h=>by cases h⟩
  .exact jT.refl _ _ _
 .exact jT.refl _ _ _
theorem YV(o:Op)(d:Bool)(s:Sto)(x:Ob):jT s.aDI o.aDO s.aDz (cU o d s x).aDz:=by
 unfold cU;split
 .exact YU s o x.arg
 .split
  .exact jT.refl _ _ _
  .split<;>exact jT.refl _ _ _
theorem uV(o:Op)(d:Bool):∀(l:List Ob) (s:Sto),jT s.aDI o.aDO s.aDz (l.foldl (cU o d) s).aDz
 | [],_=>jT.refl _ _ _
 |x::l,s=>(YV o d s x).trans (by have:=uV o d l (cU o d s x);rwa [CP] at this)
theorem Ee{t:Int}{a:bY}{l m:List cG}(h:jT t a l m):m.map cG.id=l.map cG.id:=by
 refine List.ext_getElem? fun j=> ?_
 rw[List.getElem?_map,List.getElem?_map]
 rcases Nat.lt_or_ge j l.length with hj|hj
 .obtain⟨L,e,_⟩:=h.2 j l[j] (gE hj);rw[e,gE hj];rfl
 .rw[List.getElem?_eq_none hj,List.getElem?_eq_none (by rw[h.1];exact hj)]
theorem Ef{t:Int}{a:bY}{l m:List cG}(h:jT t a l m){d:cG}(g:d∈m):∃c∈l,∃L:List uC,d={c with log:=c.log++L}/\∀h∈L,h.aDI=t/\h.aD8=a:=by
 obtain⟨i,b,rfl⟩:=List.getElem_of_mem g;have j:i<l.length:=by rw[<-h.1];exact b
 obtain⟨L,e,f⟩:=h.2 i l[i] (gE j);rw[gE b] at e;injection e with e;exact⟨l[i],List.getElem_mem _,L,e,f⟩
theorem PO{t:Int}{a:bY}{c:cG}{L:List uC}(h:lZ t c)(f:0<=t)(d:∀h∈L,h.aDI=t/\h.aD8=a):lZ t {c with log:=c.log++L}:=by
 refine⟨h.aDE,h.aEd,h.aEG,fun x b=> ?_,?_⟩
 .rcases List.mem_append.1 b with b|b
  .exact h.aEs x b
  .rw[(d x b).1];exact⟨f,Int.le_refl _⟩
 .rw[List.pairwise_append];refine⟨h.order,?_,fun x b y g=> ?_⟩
  .refine List.pairwise_iff_getElem.2 fun i j e hj _=> ?_
   rw[(d _ (List.getElem_mem e)).1,(d _ (List.getElem_mem hj)).1];exact Int.le_refl _
  .rw[(d y g).1];exact(h.aEs x b).2
def jJ(a b:List wF)(tick:Int):Prop:=∃l,b=a++l/\∀r∈l,r.aDI=tick/\r.open_=true
theorem jJ.refl(a:List wF)(t:Int):jJ a a t:=⟨[],qs,fun n h=>absurd h qs⟩
theorem jJ.trans{a b c:List wF}{t:Int}(h:jJ a b t)(k:jJ b c t):jJ a c t:=by
 exact QCc
theorem PQ(s:Sto)(o:Op)(r:bY):jJ s.aDC (gC s o r).aDC s.aDI:=⟨_,rfl,fun n a=>by rw[List.mem_singleton] at a;rw[a];exact⟨rfl,rfl⟩⟩
theorem Jv(o:Op)(d:Bool)(s:Sto)(x:Ob):jJ s.aDC (cU o d s x).aDC s.aDI:=by
 unfold cU;split
 .rw[(VG _ _ _).2];exact jJ.refl _ _
 .split
  .exact PQ _ _ _
  .split<;>exact jJ.refl _ _
theorem GI(o:Op)(d:Bool):∀(l:List Ob) (s:Sto),jJ s.aDC (l.foldl (cU o d) s).aDC s.aDI
 | [],_=>jJ.refl _ _
 |x::l,s=>(Jv o d s x).trans (by have:=GI o d l (cU o d s x);rwa [CP] at this)
theorem tG(g:Bool)(s:Sto)(o:Op)(r:bY):(if g=true then gC s o r else s).aDz=s.aDz:=by split<;>rfl
theorem RU(g:Bool)(s:Sto)(o:Op)(r:bY):jJ s.aDC (if g=true then gC s o r else s).aDC s.aDI:=by
 split
 .exact PQ _ _ _
 .exact jJ.refl _ _
theorem VI{a b:List wF}{t:Int}(h:jJ a b t)(e:0<=t)(ha:∀r∈a,0<=r.aDI/\r.aDI<=t):∀r∈b,0<=r.aDI/\r.aDI<=t:=by
 obtain⟨l,rfl,d⟩:=h;intro r c
 rcases List.mem_append.1 c with c|c
 .exact ha r c
 .rw[(d r c).1];exact⟨e,Int.le_refl _⟩
theorem Jw{s:Sto}(h:uI s)(g:Bool)(o:Op)(r:bY):uI (if g=true then gC s o r else s):=by
 have h1:=VI (RU g s o r) h.aDI.1 h.aEe;have a:=RN g s o r;have c:=gS g s o r;have b:=tG g s o r;exact⟨by rw[a];exact h.aDI,by rw[c.2];exact h.aDL,by rw[b];exact h.few,by rw[c.1];exact h.aDM,by rw[b];exact h.aEd,by rw[b,a];exact h.each,by rw[a];exact h1⟩
theorem Eg{s:Sto}(h:uI s)(o:Op)(d:Bool)(l:List Ob):uI (l.foldl (cU o d) s):=by
 have a:=FU o d l s;have f:=mY o d l s;have e:=uV o d l s;refine⟨by rw[a];exact h.aDI,by rw[f.2];exact h.aDL,by rw[e.1];exact h.few,by rw[f.1];exact h.aDM,GH h.aEd (Ee e),?_,?_⟩
 .intro c j;obtain⟨b,i,L,rfl,g⟩:=Ef e j;rw[a];exact PO (h.each b i) h.aDI.1 g
 .rw[a];exact VI (GI o d l s) h.aDI.1 h.aEe
theorem QDj{p:Prop}(h:p:=by
 simp only[aL,List.length_singleton,List.length_take,List.length_drop];omega):p:=h
def nT(l:List (ByteArray×V3))(name:bY)(v:V3):List (ByteArray×V3):=
 let i:=l.findIdx (fun f=>gU name f.1)
 match l[i]? with
 |none=>l++[(name,v)]
 |some f=>if f.1=name then l.set i (name,v) else l.take i++[(name,v)]++l.drop i
theorem xO(c:cG)(name:bY)(v:V3):nZ c name v={c with aDE:=nT c.aDE name v}:=by
 unfold nZ nT;dsimp only
 cases c.aDE[c.aDE.findIdx (fun f=>gU name f.1)]? with
 |none=>rfl
 |some f=>dsimp only;split<;>rfl
theorem Ql{l:List (ByteArray×V3)}{name:bY}{v:V3}{f:ByteArray×V3}(h:f∈nT l name v):f∈l\/f=(name,v):=by
 unfold nT at h;dsimp only at h;split at h
 .rcases List.mem_append.1 h with h|h
  .exact .inl h
  .exact .inr (by simpa using h)
 .split at h
  .rcases List.mem_or_eq_of_mem_set h with h|h
   .exact .inl h
   .exact .inr h
  .rw[List.append_assoc,List.mem_append,List.mem_append] at h
   rcases h with h|h|h
   .exact .inl (List.mem_of_mem_take h)
   .exact .inr (by simpa using h)
   .exact .inl (List.mem_of_mem_drop h)
theorem Jx{l:List (ByteArray×V3)}(h:jS Prod.fst l)(name:bY)(v:V3):jS Prod.fst (nT l name v):=by
 unfold nT;dsimp only;split
 .rename_i d;have hle:l.findIdx (fun f=>gU name f.1)<=l.length:=List.findIdx_le_length;have e:l.length<=l.findIdx (fun f=>gU name f.1):=List.getElem?_eq_none_iff.1 d;have:=AJ h (name,v) l.length (by show l.findIdx (fun c=>gU name c.1)=_;omega) (fun c a=>by rw[List.getElem?_eq_none (lR _)] at a;cases a);rwa [List.take_length,List.drop_length,List.append_nil] at this
 .rename_i f b;split
  .rename_i he;exact KV h (fun c a=>by rw[b] at a;injection a with a;rw[<-a];exact he.symm)
  .rename_i he;exact AJ h (name,v) _ rfl (fun c a=>by
    have:l[l.findIdx (fun f=>gU name f.1)]? =some c:=a;rw[b] at this;injection this with this;rw[<-this];exact he)
theorem YW{l:List (ByteArray×V3)}(h:jS Prod.fst l){f:ByteArray×V3}(b:f∈l):l[l.findIdx (fun g=>gU f.1 g.1)]? =some f:=by
 obtain⟨k,a,rfl⟩:=List.getElem_of_mem b;have:=KU (key:=Prod.fst) h a;rw[this];exact gE a
theorem Qm{l:List (ByteArray×V3)}(h:jS Prod.fst l)(name:bY)(v:V3)(a:l.length<=16)(c:16<=l.length->∃f∈l,f.1=name):(nT l name v).length<=16:=by
 by_cases h16:16<=l.length
 .obtain⟨f,b,rfl⟩:=c h16;have e:=YW h b;unfold nT;dsimp only;rw[e];dsimp only;rw[iP rfl,List.length_set];exact a
 .unfold nT;dsimp only;split
  .rw[aL,List.length_singleton];omega
  .split
   .rw[List.length_set];exact a
   .rw[aL,aL,List.length_singleton,List.length_take,List.length_drop];omega
theorem Eh{c:cG}{name:bY}(h:gK c name≠bD):∃f∈c.aDE,f.1=name:=by
 unfold gK at h
 cases a:c.aDE.find? (fun f=>decide (f.1=name)) with
 |none=>rw[a] at h;exact absurd rfl h
 |some f=>exact⟨f,List.mem_of_find?_eq_some a,by simpa using List.find?_some a⟩
theorem RV{o:Op}(h:fK o=true)(a:o.aDy=3):o.val≠bD:=by
 unfold fK at h;split at h
 .cases h
 split at h
 .cases h
 unfold fW at h;dsimp only at h;rw[iN qo,iN qo,iP a] at h;simp only[Bool.and_eq_true,decide_eq_true_eq] at h;exact h.1.2
theorem wO{o:Op}(h:fK o=true)(a:o.aDy=8):0<o.aDV/\o.aDV<=1099511627776:=by
 unfold fK at h;split at h
 .cases h
 split at h
 .cases h
 unfold fW at h;dsimp only at h;rw[iN qo,iN qo,iN qo,iN qo,iN qo,iN qo,iP a] at h;simp only[Bool.and_eq_true,decide_eq_true_eq] at h;exact h.1
theorem AM{s:Sto}{o:Op}(h:iA s o=0):∃c,dU s o.aDF=some c/\¬(o.aDy=3/\16<=c.aDE.length/\gK c o.aDS=bD)/\¬(o.aDy≠2/\256<=c.log.length)/\¬((o.aDy=3/\c.aDU=oF)\/(o.aDy=4/\gY c.aDU o.to_=false)):=by
 unfold iA at h
 cases a:dU s o.aDF with
 |none=>rw[a] at h;exact absurd (show (10:Int)=0 from h) qe
 |some c=>
  rw[a] at h;dsimp only at h;refine⟨c,rfl,?_⟩;split at h
  .cases h
  rename_i h1;split at h
  .cases h
  rename_i h2;split at h
  .cases h
  rename_i h3;exact⟨h1,h2,h3⟩
theorem AN{s:Sto}{o:Op}(h:dN s o=0):fK o=true/\(o.aDy=1->(aV s o.aDF).2=false/\s.aDz.length<64)/\(o.aDy=2\/o.aDy=3\/o.aDy=4->iA s o=0)/\(o.aDy=5->iS s o=0)/\(o.aDy=6->¬(64<=s.aDM.length/\rX s o.aDF o.aDS=false))/\(o.aDy=8->s.aDI<=1099511627776 - o.aDV):=by
 have b:=lK h;unfold dN at h;rw[b,iN qe] at h;refine⟨b,fun a=> ?_,fun a=> ?_,fun a=> ?_,fun a=> ?_,fun a=> ?_⟩
 .rw[iP a] at h;split at h
  .cases h
  rename_i h1;split at h
  .cases h
  exact⟨by simpa using h1,qo⟩
 .rw[iN qo,iP a] at h;exact h
 .rw[iN qo,iN qo,iP a] at h;exact h
 .rw[iN qo,iN qo,iN qo,iP a] at h;split at h
  .cases h
  rename_i h1;exact h1
 .rw[iN qo,iN qo,iN qo,iN qo,iP a] at h;split at h
  .cases h
  omega
theorem NL{s:Sto}{c:cG}(h:lZ s.aDI c)(e:0<=s.aDI)(a b:bY):lZ s.aDI (oH s c a b):=PO h e (L:=[⟨s.aDI,a,b⟩]) (a:=a) (fun x d=>by rw[List.mem_singleton] at d;rw[d];exact⟨rfl,rfl⟩)
theorem KW{s:Sto}{i:Nat}{f:cG->cG}{d:cG}(h:d∈(fH s i f).aDz):d∈s.aDz\/∃c,s.aDz[i]? =some c/\d=f c:=by
 unfold fH at h;dsimp only at h;split at h
 .rename_i c a
  rcases List.mem_or_eq_of_mem_set h with h|h
  .exact .inl h
  .exact .inr ⟨c,a,h⟩
 .exact .inl h
theorem YX{s:Sto}{i:Nat}{f:cG->cG}(h:jS cG.id s.aDz)(e:∀c,s.aDz[i]? =some c->(f c).id=c.id):jS cG.id (fH s i f).aDz:=by
 unfold fH;dsimp only;split
 .rename_i c b;exact KV h (fun d a=>by rw[b] at a;injection a with a;rw[<-a];exact e c b)
 .exact h
theorem AO(s:Sto)(i:Nat)(f:cG->cG):(fH s i f).aDz.length=s.aDz.length:=by
 unfold fH;dsimp only;split
 .exact List.length_set
 .rfl
def mA(s t:Sto):Prop:=s.aDz.length<=t.aDz.length/\∀c∈s.aDz,∃d∈t.aDz,iG c d
theorem mA.refl(s:Sto):mA s s:=⟨lR _,fun c a=>⟨c,a,iG.refl c⟩⟩
theorem Qn{s:Sto}{i:Nat}{f:cG->cG}(g:∀c,s.aDz[i]? =some c->iG c (f c)):mA s (fH s i f):=by
 refine⟨by rw[AO];exact lR _,fun c d=> ?_⟩;obtain⟨k,b,rfl⟩:=List.getElem_of_mem d;unfold fH;dsimp only;split
 .rename_i c a;by_cases e:i=k
  .subst e;rw[gE b] at a;injection a with a;subst a;exact⟨_,List.mem_set b _,g _ (gE b)⟩
  .exact⟨s.aDz[k],List.mem_iff_getElem.2 ⟨k,by rw[List.length_set];exact b,by rw[List.getElem_set_ne e]⟩,iG.refl _⟩
 .exact⟨_,d,iG.refl _⟩
theorem VJ{s:Sto}{id:bY}{c d:cG}(h:dU s id=some c)(a:s.aDz[(aV s id).1]? =some d):d=c:=by
 obtain⟨k,f,b,e,_⟩:=Ax h;rw[b] at a;dsimp only at a;rw[gE f,e] at a;injection a with a;exact a.symm
theorem VK{s:Sto}(o:Op)(h:uI s):uI (cY s o)/\mA s (cY s o):=by
 unfold cY;by_cases h0:dN s o=0
 case neg=>rw[iP h0];exact⟨h,mA.refl s⟩
 rw[iN (fun j=>j h0)];obtain⟨d,B,p,G,C,D⟩:=AN h0;dsimp only;by_cases h1:o.aDy=1
 .rw[iP h1];obtain⟨h2,h3⟩:=B h1;obtain⟨n,w⟩:=Qk h2;have E:lZ s.aDI (oH s ⟨o.aDF,o.aDO,zQ,[],[]⟩ o.aDO (str "new")):=
   NL (c:=⟨o.aDF,o.aDO,zQ,[],[]⟩) ⟨qs,List.Pairwise.nil,(fun f d=>by cases d),(fun x b=>by cases b),List.Pairwise.nil⟩ h.aDI.1 _ _
  have hle:(aV s o.aDF).1<=s.aDz.length:=by rw[n];exact List.findIdx_le_length
  refine⟨⟨h.aDI,h.aDL,?_,h.aDM,?_,?_,h.aEe⟩,?_,?_⟩
  .exact QDj
  .exact AJ (key:=cG.id) h.aEd _ _ n.symm w
  .intro c a;simp only[List.append_assoc,List.mem_append,List.mem_singleton] at a
   rcases a with a|rfl|a
   .exact h.each c (List.mem_of_mem_take a)
   .exact E
   .exact h.each c (List.mem_of_mem_drop a)
  .exact QDj
  .intro c a;refine⟨c,?_,iG.refl c⟩;simp only[List.append_assoc,List.mem_append,List.mem_singleton];have:c∈s.aDz.take (aV s o.aDF).1++s.aDz.drop (aV s o.aDF).1:=by rw[List.take_append_drop];exact a
   rcases List.mem_append.1 this with h|h
   .exact .inl h
   .exact .inr (.inr h)
 rw[iN h1];have q:∀f:cG->cG,(∀c,s.aDz[(aV s o.aDF).1]? =some c->lZ s.aDI c->lZ s.aDI (f c)/\iG c (f c))->uI (fH s (aV s o.aDF).1 f)/\mA s (fH s (aV s o.aDF).1 f):=by
  intro f z;have hm:∀c,s.aDz[(aV s o.aDF).1]? =some c->lZ s.aDI (f c)/\iG c (f c):=fun c a=>z c a (h.each c (List.mem_of_getElem? a))
  refine⟨⟨h.aDI,h.aDL,by rw[AO];exact h.few,h.aDM,YX h.aEd (fun c a=>(hm c a).2.id),fun c a=> ?_,h.aEe⟩,Qn (fun c a=>(hm c a).2)⟩
  rcases KW a with a|⟨v,y,rfl⟩
  .exact h.each c a
  .exact(hm v y).1
 by_cases h3:o.aDy=3
 .rw[iP h3];obtain⟨c0,g,t,F,m⟩:=AM (p (.inr (.inl h3)));refine q _ fun c a hm=> ?_
  obtain rfl:=VJ g a;rw[xO];have k:lZ s.aDI {c with aDE:=nT c.aDE o.aDS o.val}:=by
   refine⟨Qm hm.aEd _ _ hm.aDE (fun h16=>Eh (fun e=>t ⟨h3,h16,e⟩)),Jx hm.aEd _ _,fun f i=> ?_,hm.aEs,hm.order⟩
   rcases Ql i with i|rfl
   .exact hm.aEG f i
   .exact RV d h3
  exact⟨NL k h.aDI.1 _ _,⟨rfl,rfl,.inl rfl,List.prefix_append _ _,fun a=>absurd (.inl ⟨h3,a⟩) m⟩⟩
 rw[iN h3];by_cases h4:o.aDy=4
 .rw[iP h4];obtain⟨c0,g,t,F,m⟩:=AM (p (.inr (.inr h4)));refine q _ fun c a hm=> ?_
  obtain rfl:=VJ g a;have k:lZ s.aDI {c with aDU:=o.to_}:=⟨hm.aDE,hm.aEd,hm.aEG,hm.aEs,hm.order⟩;refine⟨NL k h.aDI.1 _ _,⟨rfl,rfl,.inr ?_,List.prefix_append _ _,fun _=>rfl⟩⟩;show gY c.aDU o.to_=true
  cases A:gY c.aDU o.to_
  .exact absurd (.inr ⟨h4,A⟩) m
  .rfl
 rw[iN h4];by_cases h5:o.aDy=5
 .rw[iP h5];refine⟨⟨h.aDI,h.aDL,h.few,h.aDM,h.aEd,h.each,?_⟩,lR _,fun c a=>⟨c,a,iG.refl c⟩⟩;dsimp only;split
  .rename_i r l;intro x b
   rcases List.mem_or_eq_of_mem_set b with b|rfl
   .exact h.aEe x b
   .exact h.aEe r (List.mem_of_getElem? l)
  .exact h.aEe
 rw[iN h5];by_cases h6:o.aDy=6
 .rw[iP h6];split
  .exact⟨h,mA.refl s⟩
  .rename_i j;have:=C h6;refine⟨⟨h.aDI,h.aDL,h.few,?_,h.aEd,h.each,h.aEe⟩,lR _,fun c a=>⟨c,a,iG.refl c⟩⟩;simp only[aL,List.length_singleton];have h7:rX s o.aDF o.aDS=false:=by simpa using j
   have h8:¬64<=s.aDM.length:=fun h=>this ⟨h,h7⟩
   omega
 rw[iN h6];by_cases h7:o.aDy=7
 .rw[iP h7];split
  .exact⟨⟨h.aDI,by have:=h.aDL;show 0<=s.aDL+1;omega,h.few,h.aDM,h.aEd,h.each,h.aEe⟩,lR _,fun c a=>⟨c,a,iG.refl c⟩⟩
  .exact⟨h,mA.refl s⟩
 rw[iN h7];by_cases h8:o.aDy=8
 .rw[iP h8];have h9:=D h8;have h10:=wO d h8;have h11:=h.aDI;refine⟨⟨⟨by show 0<=s.aDI+o.aDV;omega,by show s.aDI+o.aDV<=_;omega⟩,h.aDL,h.few,h.aDM,h.aEd,fun c a=>(h.each c a).more (by show s.aDI<=s.aDI+o.aDV;omega),fun r l=> ?_⟩,lR _,fun c a=>⟨c,a,iG.refl c⟩⟩;have:=h.aEe r l;exact⟨this.1,by show r.aDI<=s.aDI+o.aDV;omega⟩
 rw[iN h8];exact⟨h,mA.refl s⟩
theorem Ei{s t u:Sto}{k:Int}{a:bY}(h:mA s t)(f:jT k a t.aDz u.aDz):mA s u:=by
 refine⟨by rw[f.1];exact h.1,fun c g=> ?_⟩;obtain⟨d,j,b⟩:=h.2 c g;obtain⟨i,l,rfl⟩:=List.getElem_of_mem j;obtain⟨L,e,_⟩:=f.2 i _ (gE l);exact⟨_,List.mem_of_getElem? e,⟨b.id,b.aD2,b.aDU,b.log.trans (List.prefix_append _ _),b.shut⟩⟩
theorem YY(g:Bool)(s:Sto)(o:Op)(r:bY):mA s (if g=true then gC s o r else s):=by
 split
 .exact⟨lR _,fun c a=>⟨c,a,iG.refl c⟩⟩
 .exact mA.refl s
theorem Ej{s t u:Sto}(h:t.aDz=s.aDz)(k:mA t u):mA s u:=by
 refine⟨by rw[<-h];exact k.1,fun c a=>k.2 c (by rw[h];exact a)⟩
theorem PU(s:Sto)(o:Op)(h:sD s):sD (cK s o).1/\mA s (cK s o).1:=by
 have hw:=nN s o
 rcases a:cK s o with ⟨t,r,d,e⟩
 rw[a] at hw
 cases hw with
 |none _ _ he j _=>exact⟨h,mA.refl s⟩
 |some m l glass hidden v k i g c b f n=>
  dsimp only;have hm:=Jw h.1 glass o o.aDX;refine⟨⟨?_,b⟩,?_⟩
  .refine Eg ?_ o _ l;split
   .exact(VK o hm).1
   .exact hm
  .refine Ei ?_ (uV o _ l _);split
   .exact Ej (tG glass s o o.aDX) (VK o hm).2
   .exact YY glass s o o.aDX
theorem Zs:sD kW:=⟨⟨⟨qe,qe⟩,qe,qe,qe,List.Pairwise.nil,(fun c a=>by cases a),(fun r b=>by cases b)⟩,rfl⟩
theorem bC.aET{K:nP}{base:Nat}{w:World}{s:Sto}{L:List Mix}{ro:Option Value}{c:oD}{n f:Nat}{vr vn vo vt vu vk vb:Value}(h:bC K base w s L ro (.slice c n f) vr vn vo vt vu vk vb){k:Nat}(a:k<L.length)(o:L[k].2.1.isSome=true):
 ∃g la lc,c=some ⟨g,0,none⟩/\L[k].2.1=some (.slice la L[k].1.aDE.length lc)/\w.cell? ⟨g,k * 5+3,none⟩=some (.slice la L[k].1.aDE.length lc)/\base<=g/\g<w.heap.size/\aM lH 4 178 w base (fun _=>False) (.slice la L[k].1.aDE.length lc) L[k].1.aDE/\some g≠(Value.slice la L[k].1.aDE.length lc).ownBlock/\(∀i,w.frozen? ⟨g,i,none⟩=false)/\¬K g:=by
 obtain⟨g,r,e,h1,h2,hm,j,l⟩:=h.aDz.at (dP base K) a qe;obtain⟨z,A,rfl,p,q,t,d,p5⟩:=hm;obtain⟨v,b⟩:=Option.isSome_iff_exists.1 o;have m:=(kI h.aDz a).1 v b;rw[b] at d;obtain⟨rfl,q1,x,y⟩:=d;obtain⟨la,lc,rfl⟩:=q1.slice;subst e;exact⟨g,la,lc,rfl,b,j 3 _ rfl,h1,h2,q1,fun e=>m.2.1 g e.symm rfl,l,fun a=>(h.kept g a).2.1 rfl⟩
theorem DP{K:nP}{base:Nat}{w d c:World}{s:Sto}{L:List Mix}{ro:Option Value}{g n l:Nat}{vr vn vo vt vu vk vb:Value}{k:Nat}(a:bC K base d s L ro (.slice (some ⟨g,0,none⟩) n l) vr vn vo vt vu vk vb)(i:k<L.length)(t:Below w.heap.size w d){v v':Value}(j:L[k].2.1=some v){l':List pT}(q:l'.length<=1000000)(m:d.grownBy c v.ownBlock)(o:aM lH 4 178 c base (fun _=>False) v' l')(p:v'.ownBlock=v.ownBlock\/v'.ownBlock=some d.heap.size):
 Hid (bC K base (c.setCell ⟨g,k * 5+3,none⟩ v') {s with aDz:=s.aDz.set k {L[k].1 with aDE:=l'}} (L.set k ({L[k].1 with aDE:=l'},some v',L[k].2.2)) ro (.slice (some ⟨g,0,none⟩) n l) vr vn vo vt vu vk vb)/\Hid (aN (fun b=>b<base\/K b) w (c.setCell ⟨g,k * 5+3,none⟩ v')):=by
 have r:=(kI a.aDz i).1 v j;have x:=a.aDz.lt g rfl;exact⟨a.aDE i j m o (yS p (lR _)) q,((aJ t).trans ((cZ m).mono (fun b _ f e=>f.elim (fun h=>qA ((r.1.lt b e.symm).1)) (fun h=>(a.aD3 k i).1 b (cN.2 ⟨v,j,e.symm⟩) h)))).trans ((aI _).mono (fun b _ f e=>f.elim (fun h=>by omega) (fun h=>(a.kept b h).2.1 (by rw[e];rfl))))⟩
theorem Wp{w:World}{base:Nat}{ok:nP}{e:TypeId}{g n c k:Nat}{l:List pT}(h:aM lH 4 e w base ok (.slice (some ⟨g,0,none⟩) n c) l)(b:k<l.length){N:bY}{v:V3}(m:l[k].1=N)(d:cS v):
 aM lH 4 e (((w.setCell ⟨g,k * 4+1,none⟩ (.int .i64 v.1)).setCell ⟨g,k * 4+2,none⟩ (.int .i64 v.2.1)).setCell ⟨g,k * 4+3,none⟩ (.string v.2.2)) base ok (.slice (some ⟨g,0,none⟩) n c) (l.set k (N,v)):=by
 have h1:=aM.setAt bP (j:=1) (x:= .int .i64 v.1) (y:=(l[k].1,(v.1,l[k].2.2))) h b qe (by rintro r ⟨rfl,a⟩;exact⟨rfl,a.1,d.1,a.2.2⟩);have f:(l.set k (l[k].1,(v.1,l[k].2.2)))[k]'(by rw[List.length_set];exact b)=(l[k].1,(v.1,l[k].2.2)):=List.getElem_set_self _;have h2:=aM.setAt bP (j:=2) (x:= .int .i64 v.2.1) (y:=(l[k].1,(v.1,v.2.1,l[k].2.2.2))) h1 (by rw[List.length_set];exact b) qe (by rw[f];rintro r ⟨rfl,a⟩;exact⟨rfl,a.1,d.1,d.2.1,a.2.2.2⟩);rw[List.set_set] at h2;have i:(l.set k (l[k].1,(v.1,v.2.1,l[k].2.2.2)))[k]'(by rw[List.length_set];exact b)=(l[k].1,(v.1,v.2.1,l[k].2.2.2)):=List.getElem_set_self _;have h3:=aM.setAt bP (j:=3) (x:= .string v.2.2) (y:=(l[k].1,v)) h2 (by rw[List.length_set];exact b) qe (by rw[i];rintro r ⟨rfl,a⟩;exact⟨rfl,a.1,d⟩);rw[List.set_set,m] at h3;exact h3
theorem VL{w w':World}{base i:Nat}{v:Value}{l:List pT}{xs:List Value}{x:pT}(g:EP x)(d:i<=l.length)(h:w.ownsRow base 178 4 v l.length xs/\aW (lH w (fun b=>False/\b<w.heap.size/\some b≠v.ownBlock)) xs l){A:oD}{a:Nat}(c:w'.ownsRow base 178 4 (.slice A (l.length+1) a) (l.length+1) (xs.take (i * 4)++uD x++xs.drop (i * 4))):
 aM lH 4 178 w' base (fun _=>False) (.slice A (l.length+1) a) (l.take i++[x]++l.drop i):=by
 have e:(l.take i++[x]++l.drop i).length=l.length+1:=by simp only[aL,List.length_take,List.length_drop,List.length_cons,List.length_nil];omega
 refine⟨_,by rw[e];exact c,?_⟩;have h2:aW (lH w' (fun b=>False/\b<w'.heap.size/\some b≠(Value.slice A (l.length+1) a).ownBlock)) xs l:=h.2;have h3:=h2.split (fun r x f=>bP.len f) i d;exact(h3.1.append (aW.one ⟨rfl,g⟩)).append h3.2
theorem Wq{l:List (ByteArray×V3)}{N:bY}{v:V3}(h:¬l.findIdx (fun f=>gU N f.1)<l.length):nT l N v=l++[(N,v)]:=by
 unfold nT;dsimp only;rw[List.getElem?_eq_none qo]
theorem Zt{l:List (ByteArray×V3)}{N:bY}{v:V3}{f:Nat}(a:f=l.findIdx (fun f=>gU N f.1))(h:f<l.length):nT l N v=if l[f].1=N then l.set f (N,v) else l.take f++[(N,v)]++l.drop f:=by
 unfold nT;dsimp only;rw[<-a,gE h]
end Go.Proofs.YtdfinmcogbkffaaGreatDoor
