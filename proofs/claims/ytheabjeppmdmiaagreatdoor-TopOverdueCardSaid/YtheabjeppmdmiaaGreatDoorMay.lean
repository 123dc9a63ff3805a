/- Lemmas. -/
import Derived.Test.YtheabjeppmdmiaaGreatDoorMax
import Derived.Test.YtheabjeppmdmiaaGreatDoorMas
namespace Go.Proofs.YtheabjeppmdmiaaGreatDoor
open Go.RowKit
set_option linter.unusedVariables false
set_option linter.unusedSimpArgs false
set_option maxHeartbeats 16000000
set_option maxRecDepth 20000
theorem QDh{p:Prop}(h:p:=by
 rintro⟨h1,h2,h3⟩;exact⟨qo,qo,fun c hc=>by have:=h3 c hc;simpa using this⟩):p:=h
theorem Jt(a:bY):¬a.toList<a.toList:=List.lt_irrefl _
theorem VP{a b c:bY}(h:a.toList<b.toList)(k:b.toList<c.toList):a.toList<c.toList:=List.lt_trans h k
theorem FN{a b:bY}(h:a.toList=b.toList):a=b:=by
 rw[Lib.toList_data,Lib.toList_data] at h;exact ByteArray.ext (Array.ext' h)
theorem Bc{a b:bY}:gW a b=true↔¬b.toList<a.toList:=by unfold gW;exact decide_eq_true_iff
theorem Ql(a:bY):gW a a=true:=Bc.2 (Jt a)
theorem Ju{a b:bY}:gW a b=false↔b.toList<a.toList:=by unfold gW;simp
theorem Qm{a b:bY}(h:gW a b=true)(c:a≠b):a.toList<b.toList:=by
 rcases Decidable.em (a.toList<b.toList) with h1|h1
 .exact h1
 .exact absurd (FN (List.le_antisymm (Bc.1 h) h1)) c
def kQ{α:Type}(key:α->ByteArray)(l:List α):Prop:=l.Pairwise (fun a b=>(key a).toList<(key b).toList)
theorem Eh{α:Type}{key:α->ByteArray}{l:List α}(h:kQ key l){k:Nat}(a:k<l.length):l.findIdx (fun c=>gW (key l[k]) (key c))=k:=by
 rw[List.findIdx_eq a];refine⟨Ql _,fun j hj=> ?_⟩;exact Ju.2 (List.pairwise_iff_getElem.1 h j k qo a hj)
theorem AR{α:Type}{key:α->ByteArray}{l:List α}(h:kQ key l)(x:α)(i:Nat)(g:l.findIdx (fun c=>gW (key x) (key c))=i)(q:∀c,l[i]? =some c->key c≠key x):kQ key (l.take i++[x]++l.drop i):=by
 have hle:i<=l.length:=g▸List.findIdx_le_length;have n:∀y∈l.take i,(key y).toList<(key x).toList:=by
  intro y d;obtain⟨j,hj,rfl⟩:=List.getElem_of_mem d;rw[List.length_take] at hj;rw[List.getElem_take];have:=List.not_of_lt_findIdx (p:=fun c=>gW (key x) (key c)) (xs:=l) (i:=j) qo;exact Ju.1 (by simpa using this)
 have m:∀y∈l.drop i,(key x).toList<(key y).toList:=by
  rcases Nat.lt_or_ge i l.length with k|o
  .have h1:gW (key x) (key l[i])=true:=by
    have:=List.findIdx_getElem (p:=fun c=>gW (key x) (key c)) (xs:=l) (w:=by rw[g];exact k);simpa [g] using this
   have h2:(key x).toList<(key l[i]).toList:=Qm h1 (fun e=>q l[i] (gE k) e.symm);intro y d;obtain⟨j,hj,rfl⟩:=List.getElem_of_mem d;rw[List.length_drop] at hj;rw[List.getElem_drop]
   rcases Nat.eq_zero_or_pos j with rfl|hp
   .exact h2
   .exact VP h2 (List.pairwise_iff_getElem.1 h i (i+j) k qo qo)
  .rw[List.drop_of_length_le o];intro y d;cases d
 unfold kQ;rw[List.append_assoc,List.pairwise_append];refine⟨h.sublist (List.take_sublist _ _),?_,?_⟩
 .rw[List.singleton_append,List.pairwise_cons];exact⟨m,h.sublist (List.drop_sublist _ _)⟩
 .intro a ha b f;rw[List.singleton_append,List.mem_cons] at f
  rcases f with rfl|f
  .exact n a ha
  .exact VP (n a ha) (m b f)
theorem GY{α:Type}{key:α->ByteArray}{l m:List α}(h:kQ key l)(he:m.map key=l.map key):kQ key m:=by
 have h1:(l.map key).Pairwise (fun a b:ByteArray=>a.toList<b.toList):=List.pairwise_map.2 h;rw[<-he] at h1;exact(List.pairwise_map (f:=key) (R:=fun a b:ByteArray=>a.toList<b.toList)).1 h1
theorem LJ{α:Type}{key:α->ByteArray}{l:List α}(h:kQ key l){i:Nat}{x:α}(b:∀c,l[i]? =some c->key x=key c):kQ key (l.set i x):=by
 refine GY h ?_;refine List.ext_getElem? fun j=> ?_
 rw[List.getElem?_map,List.getElem?_map,List.getElem?_set];by_cases e:i=j
 .subst e;rw[iP rfl];by_cases a:i<l.length
  .rw[iP a,gE a];exact congrArg some (b _ (gE a))
  .rw[iN a,List.getElem?_eq_none qo]
 .rw[iN e]
theorem Wr{s:Sto}{id:bY}(h:(aW s id).2=true):∃(k:Nat) (d:k<s.aDH.length),aW s id=(k,true)/\s.aDH[k].id=id/\eW s id=some s.aDH[k]/\s.aDH.findIdx (fun c=>gW id c.id)=k:=by
 unfold aW at h;dsimp only at h;by_cases a:s.aDH.findIdx (fun c=>gW id c.id)<s.aDH.length
 .rw[iP a,gE a] at h;have h2:s.aDH[s.aDH.findIdx (fun c=>gW id c.id)].id=id:=by simpa using h
  have b:aW s id=(s.aDH.findIdx (fun c=>gW id c.id),true):=by
   unfold aW;dsimp only;rw[iP a,gE a];simp[h2]
  refine⟨_,a,b,h2,?_,rfl⟩;unfold eW;rw[b];exact gE a
 .rw[iN a] at h;cases h
theorem Qn{s:Sto}{id:bY}(h:(aW s id).2=false):(aW s id).1=s.aDH.findIdx (fun c=>gW id c.id)/\∀c,s.aDH[(aW s id).1]? =some c->c.id≠id:=by
 unfold aW at h ⊢;dsimp only at h ⊢;by_cases b:s.aDH.findIdx (fun c=>gW id c.id)<s.aDH.length
 .rw[iP b] at h ⊢;refine⟨rfl,fun c a e=> ?_⟩;dsimp only at a;rw[a] at h;simp[e] at h
 .rw[iN b] at h ⊢;have hle:s.aDH.findIdx (fun c=>gW id c.id)<=s.aDH.length:=List.findIdx_le_length;refine⟨by dsimp only;omega,fun c a=> ?_⟩;dsimp only at a;rw[List.getElem?_eq_none (lR _)] at a
  cases a
theorem Bd{s:Sto}{id:bY}{c:cH}(h:eW s id=some c):∃(k:Nat) (b:k<s.aDH.length),aW s id=(k,true)/\s.aDH[k]=c/\c.id=id/\s.aDH.findIdx (fun c=>gW id c.id)=k:=by
 unfold eW at h;by_cases a:(aW s id).2=true
 .obtain⟨k,b,h1,h2,h3,h4⟩:=Wr a;rw[iP a,h1] at h;dsimp only at h;rw[gE b] at h;injection h with h;exact⟨k,b,h1,h,h▸h2,h4⟩
 .rw[iN a] at h;cases h
structure mE (tick:Int) (c:cH):Prop where
 aDM:c.aDM.length<=16
 aEm:kQ Prod.fst c.aDM
 aEP:∀f∈c.aDM,f.2≠bD
 aEB:∀h∈c.log,0<=h.aDP/\h.aDP<=tick
 order:c.log.Pairwise (fun a b=>a.aDP<=b.aDP)
structure uI (s:Sto):Prop where
 aDP:0<=s.aDP/\s.aDP<=1099511627776
 aDT:0<=s.aDT
 few:s.aDH.length<=64
 aDU:s.aDU.length<=64
 aEm:kQ cH.id s.aDH
 each:∀c∈s.aDH,mE s.aDP c
 aEl:∀r∈s.aDJ,0<=r.aDP/\r.aDP<=s.aDP
def AS(s:Sto):Prop:=uI s/\kC s=false
theorem mE.more{t b:Int}{c:cH}(h:mE t c)(d:t<=b):mE b c:=⟨h.aDM,h.aEm,h.aEP,fun x a=>⟨(h.aEB x a).1,qA ((h.aEB x a).2)⟩,h.order⟩
theorem AT{s:Sto}:kC s=false↔s.aDJ.length<=256/\s.aDO.length<=256/\∀c∈s.aDH,c.log.length<=256:=by
 unfold kC;rw[Bool.or_eq_false_iff,Bool.or_eq_false_iff,decide_eq_false_iff_not,decide_eq_false_iff_not,List.any_eq_false];constructor
 .exact QDh
 .exact QDh
structure iK (c d:cH):Prop where
 id:d.id=c.id
 aEa:d.aEa=c.aEa
 aD2:d.aD2=c.aD2\/iB c.aD2 d.aD2=true
 log:c.log <+:d.log
 shut:c.aD2=oI->d.aDM=c.aDM
theorem iK.refl(c:cH):iK c c:=⟨rfl,rfl,.inl rfl,List.prefix_refl _,fun _=>rfl⟩
def jV(t:Int)(a:bY)(l m:List cH):Prop:=m.length=l.length/\∀(i:Nat) (c:cH),l[i]? =some c->∃L:List uC,m[i]? =some {c with log:=c.log++L}/\∀h∈L,h.aDP=t/\h.aEg=a
theorem jV.refl(t:Int)(a:bY)(l:List cH):jV t a l l:=⟨rfl,fun i c h=>⟨[],by rw[h,List.append_nil],fun _ h=>by cases h⟩⟩
theorem jV.trans{t:Int}{a:bY}{l m n:List cH}(h:jV t a l m)(k:jV t a m n):jV t a l n:=by
 refine⟨k.1.trans h.1,fun i c j=> ?_⟩;obtain⟨L,e,f⟩:=h.2 i c j;obtain⟨M,d,g⟩:=k.2 i _ e;refine⟨L++M,by rw[d,List.append_assoc],fun x b=> ?_⟩
 rcases List.mem_append.1 b with b|b
 .exact f x b
 .exact g x b
theorem ZC(s:Sto)(o:Op)(what:bY):jV s.aDP o.aDW s.aDH (mC s o what).aDH:=by
 unfold mC;dsimp only;split
 .unfold fH;dsimp only;split
  .rename_i c f;refine⟨List.length_set,fun i d a=> ?_⟩;rw[List.getElem?_set];by_cases e:s.aDH.findIdx (fun c=>decide (c.id=o.aDN))=i
   .subst e;rw[iP rfl,iP qo];rw[f] at a;injection a with a;subst a;exact⟨[⟨s.aDP,o.aDW,what⟩],rfl,fun h b=>by rw[List.mem_singleton] at b;rw[b];exact⟨rfl,rfl⟩⟩
   .rw[iN e];exact⟨[],by rw[a,List.append_nil],fun _ h=>by cases h⟩
  .exact jV.refl _ _ _
 .exact jV.refl _ _ _
theorem ZD(o:Op)(d:Bool)(s:Sto)(x:Ob):jV s.aDP o.aDW s.aDH (dB o d s x).aDH:=by
 unfold dB;split
 .exact ZC s o x.arg
 .split
  .exact jV.refl _ _ _
  .split<;>exact jV.refl _ _ _
theorem uV(o:Op)(d:Bool):∀(l:List Ob) (s:Sto),jV s.aDP o.aDW s.aDH (l.foldl (dB o d) s).aDH
 | [],_=>jV.refl _ _ _
 |x::l,s=>(ZD o d s x).trans (by have:=uV o d l (dB o d s x);rwa [CZ] at this)
theorem Ei{t:Int}{a:bY}{l m:List cH}(h:jV t a l m):m.map cH.id=l.map cH.id:=by
 refine List.ext_getElem? fun j=> ?_
 rw[List.getElem?_map,List.getElem?_map]
 rcases Nat.lt_or_ge j l.length with hj|hj
 .obtain⟨L,e,_⟩:=h.2 j l[j] (gE hj);rw[e,gE hj];rfl
 .rw[List.getElem?_eq_none hj,List.getElem?_eq_none (by rw[h.1];exact hj)]
theorem Ej{t:Int}{a:bY}{l m:List cH}(h:jV t a l m){d:cH}(g:d∈m):∃c∈l,∃L:List uC,d={c with log:=c.log++L}/\∀h∈L,h.aDP=t/\h.aEg=a:=by
 obtain⟨i,b,rfl⟩:=List.getElem_of_mem g;have j:i<l.length:=by rw[<-h.1];exact b
 obtain⟨L,e,f⟩:=h.2 i l[i] (gE j);rw[gE b] at e;injection e with e;exact⟨l[i],List.getElem_mem _,L,e,f⟩
theorem QD{t:Int}{a:bY}{c:cH}{L:List uC}(h:mE t c)(f:0<=t)(d:∀h∈L,h.aDP=t/\h.aEg=a):mE t {c with log:=c.log++L}:=by
 refine⟨h.aDM,h.aEm,h.aEP,fun x b=> ?_,?_⟩
 .rcases List.mem_append.1 b with b|b
  .exact h.aEB x b
  .rw[(d x b).1];exact⟨f,Int.le_refl _⟩
 .rw[List.pairwise_append];refine⟨h.order,?_,fun x b y g=> ?_⟩
  .refine List.pairwise_iff_getElem.2 fun i j e hj _=> ?_
   rw[(d _ (List.getElem_mem e)).1,(d _ (List.getElem_mem hj)).1];exact Int.le_refl _
  .rw[(d y g).1];exact(h.aEB x b).2
def jL(a b:List wF)(tick:Int):Prop:=∃l,b=a++l/\∀r∈l,r.aDP=tick/\r.open_=true
theorem jL.refl(a:List wF)(t:Int):jL a a t:=⟨[],qs,fun n h=>absurd h qs⟩
theorem jL.trans{a b c:List wF}{t:Int}(h:jL a b t)(k:jL b c t):jL a c t:=by
 exact QCb
theorem QE(s:Sto)(o:Op)(r:bY):jL s.aDJ (fT s o r).aDJ s.aDP:=⟨_,rfl,fun n a=>by rw[List.mem_singleton] at a;rw[a];exact⟨rfl,rfl⟩⟩
theorem Jv(o:Op)(d:Bool)(s:Sto)(x:Ob):jL s.aDJ (dB o d s x).aDJ s.aDP:=by
 unfold dB;split
 .rw[(VO _ _ _).2];exact jL.refl _ _
 .split
  .exact QE _ _ _
  .split<;>exact jL.refl _ _
theorem GZ(o:Op)(d:Bool):∀(l:List Ob) (s:Sto),jL s.aDJ (l.foldl (dB o d) s).aDJ s.aDP
 | [],_=>jL.refl _ _
 |x::l,s=>(Jv o d s x).trans (by have:=GZ o d l (dB o d s x);rwa [CZ] at this)
theorem tI(g:Bool)(s:Sto)(o:Op)(r:bY):(if g=true then fT s o r else s).aDH=s.aDH:=by split<;>rfl
theorem SF(g:Bool)(s:Sto)(o:Op)(r:bY):jL s.aDJ (if g=true then fT s o r else s).aDJ s.aDP:=by
 split
 .exact QE _ _ _
 .exact jL.refl _ _
theorem VQ{a b:List wF}{t:Int}(h:jL a b t)(e:0<=t)(ha:∀r∈a,0<=r.aDP/\r.aDP<=t):∀r∈b,0<=r.aDP/\r.aDP<=t:=by
 obtain⟨l,rfl,d⟩:=h;intro r c
 rcases List.mem_append.1 c with c|c
 .exact ha r c
 .rw[(d r c).1];exact⟨e,Int.le_refl _⟩
theorem Jw{s:Sto}(h:uI s)(g:Bool)(o:Op)(r:bY):uI (if g=true then fT s o r else s):=by
 have h1:=VQ (SF g s o r) h.aDP.1 h.aEl;have a:=RY g s o r;have c:=gV g s o r;have b:=tI g s o r;exact⟨by rw[a];exact h.aDP,by rw[c.2];exact h.aDT,by rw[b];exact h.few,by rw[c.1];exact h.aDU,by rw[b];exact h.aEm,by rw[b,a];exact h.each,by rw[a];exact h1⟩
theorem Ek{s:Sto}(h:uI s)(o:Op)(d:Bool)(l:List Ob):uI (l.foldl (dB o d) s):=by
 have a:=GK o d l s;have f:=nC o d l s;have e:=uV o d l s;refine⟨by rw[a];exact h.aDP,by rw[f.2];exact h.aDT,by rw[e.1];exact h.few,by rw[f.1];exact h.aDU,GY h.aEm (Ei e),?_,?_⟩
 .intro c j;obtain⟨b,i,L,rfl,g⟩:=Ej e j;rw[a];exact QD (h.each b i) h.aDP.1 g
 .rw[a];exact VQ (GZ o d l s) h.aDP.1 h.aEl
theorem QDi{p:Prop}(h:p:=by
 simp only[aL,List.length_singleton,List.length_take,List.length_drop];omega):p:=h
def nW(l:List (ByteArray×V3))(name:bY)(v:V3):List (ByteArray×V3):=
 let i:=l.findIdx (fun f=>gW name f.1)
 match l[i]? with
 |none=>l++[(name,v)]
 |some f=>if f.1=name then l.set i (name,v) else l.take i++[(name,v)]++l.drop i
theorem xQ(c:cH)(name:bY)(v:V3):oB c name v={c with aDM:=nW c.aDM name v}:=by
 unfold oB nW;dsimp only
 cases c.aDM[c.aDM.findIdx (fun f=>gW name f.1)]? with
 |none=>rfl
 |some f=>dsimp only;split<;>rfl
theorem Qo{l:List (ByteArray×V3)}{name:bY}{v:V3}{f:ByteArray×V3}(h:f∈nW l name v):f∈l\/f=(name,v):=by
 unfold nW at h;dsimp only at h;split at h
 .rcases List.mem_append.1 h with h|h
  .exact .inl h
  .exact .inr (by simpa using h)
 .split at h
  .rcases List.mem_or_eq_of_mem_set h with h|h
   .exact .inl h
   .exact .inr h
  .rw[List.append_assoc,List.mem_append,List.mem_append] at h
   rcases h with h|h|h
   .exact .inl (List.mem_of_mem_take h)
   .exact .inr (by simpa using h)
   .exact .inl (List.mem_of_mem_drop h)
theorem Jx{l:List (ByteArray×V3)}(h:kQ Prod.fst l)(name:bY)(v:V3):kQ Prod.fst (nW l name v):=by
 unfold nW;dsimp only;split
 .rename_i d;have hle:l.findIdx (fun f=>gW name f.1)<=l.length:=List.findIdx_le_length;have e:l.length<=l.findIdx (fun f=>gW name f.1):=List.getElem?_eq_none_iff.1 d;have:=AR h (name,v) l.length (by show l.findIdx (fun c=>gW name c.1)=_;omega) (fun c a=>by rw[List.getElem?_eq_none (lR _)] at a;cases a);rwa [List.take_length,List.drop_length,List.append_nil] at this
 .rename_i f b;split
  .rename_i he;exact LJ h (fun c a=>by rw[b] at a;injection a with a;rw[<-a];exact he.symm)
  .rename_i he;exact AR h (name,v) _ rfl (fun c a=>by
    have:l[l.findIdx (fun f=>gW name f.1)]? =some c:=a;rw[b] at this;injection this with this;rw[<-this];exact he)
theorem ZE{l:List (ByteArray×V3)}(h:kQ Prod.fst l){f:ByteArray×V3}(b:f∈l):l[l.findIdx (fun g=>gW f.1 g.1)]? =some f:=by
 obtain⟨k,a,rfl⟩:=List.getElem_of_mem b;have:=Eh (key:=Prod.fst) h a;rw[this];exact gE a
theorem Qp{l:List (ByteArray×V3)}(h:kQ Prod.fst l)(name:bY)(v:V3)(a:l.length<=16)(c:16<=l.length->∃f∈l,f.1=name):(nW l name v).length<=16:=by
 by_cases h16:16<=l.length
 .obtain⟨f,b,rfl⟩:=c h16;have e:=ZE h b;unfold nW;dsimp only;rw[e];dsimp only;rw[iP rfl,List.length_set];exact a
 .unfold nW;dsimp only;split
  .rw[aL,List.length_singleton];omega
  .split
   .rw[List.length_set];exact a
   .rw[aL,aL,List.length_singleton,List.length_take,List.length_drop];omega
theorem El{c:cH}{name:bY}(h:gL c name≠bD):∃f∈c.aDM,f.1=name:=by
 unfold gL at h
 cases a:c.aDM.find? (fun f=>decide (f.1=name)) with
 |none=>rw[a] at h;exact absurd rfl h
 |some f=>exact⟨f,List.mem_of_find?_eq_some a,by simpa using List.find?_some a⟩
theorem SG{o:Op}(h:gF o=true)(a:o.aDG=3):o.val≠bD:=by
 unfold gF at h;split at h
 .cases h
 split at h
 .cases h
 unfold fP at h;dsimp only at h;rw[iN qo,iN qo,iP a] at h;simp only[Bool.and_eq_true,decide_eq_true_eq] at h;exact h.1.2
theorem wO{o:Op}(h:gF o=true)(a:o.aDG=8):0<o.aD3/\o.aD3<=1099511627776:=by
 unfold gF at h;split at h
 .cases h
 split at h
 .cases h
 unfold fP at h;dsimp only at h;rw[iN qo,iN qo,iN qo,iN qo,iN qo,iN qo,iP a] at h;simp only[Bool.and_eq_true,decide_eq_true_eq] at h;exact h.1
theorem AU{s:Sto}{o:Op}(h:iL s o=0):∃c,eW s o.aDN=some c/\¬(o.aDG=3/\16<=c.aDM.length/\gL c o.aD1=bD)/\¬(o.aDG≠2/\256<=c.log.length)/\¬((o.aDG=3/\c.aD2=oI)\/(o.aDG=4/\iB c.aD2 o.to_=false)):=by
 unfold iL at h
 cases a:eW s o.aDN with
 |none=>rw[a] at h;exact absurd (show (10:Int)=0 from h) qe
 |some c=>
  rw[a] at h;dsimp only at h;refine⟨c,rfl,?_⟩;split at h
  .cases h
  rename_i h1;split at h
  .cases h
  rename_i h2;split at h
  .cases h
  rename_i h3;exact⟨h1,h2,h3⟩
theorem AW{s:Sto}{o:Op}(h:dO s o=0):gF o=true/\(o.aDG=1->(aW s o.aDN).2=false/\s.aDH.length<64)/\(o.aDG=2\/o.aDG=3\/o.aDG=4->iL s o=0)/\(o.aDG=5->iX s o=0)/\(o.aDG=6->¬(64<=s.aDU.length/\rC s o.aDN o.aD1=false))/\(o.aDG=8->s.aDP<=1099511627776 - o.aD3):=by
 have b:=oC h;unfold dO at h;rw[b,iN qe] at h;refine⟨b,fun a=> ?_,fun a=> ?_,fun a=> ?_,fun a=> ?_,fun a=> ?_⟩
 .rw[iP a] at h;split at h
  .cases h
  rename_i h1;split at h
  .cases h
  exact⟨by simpa using h1,qo⟩
 .rw[iN qo,iP a] at h;exact h
 .rw[iN qo,iN qo,iP a] at h;exact h
 .rw[iN qo,iN qo,iN qo,iP a] at h;split at h
  .cases h
  rename_i h1;exact h1
 .rw[iN qo,iN qo,iN qo,iN qo,iP a] at h;split at h
  .cases h
  omega
theorem OF{s:Sto}{c:cH}(h:mE s.aDP c)(e:0<=s.aDP)(a b:bY):mE s.aDP (oK s c a b):=QD h e (L:=[⟨s.aDP,a,b⟩]) (a:=a) (fun x d=>by rw[List.mem_singleton] at d;rw[d];exact⟨rfl,rfl⟩)
theorem LK{s:Sto}{i:Nat}{f:cH->cH}{d:cH}(h:d∈(fH s i f).aDH):d∈s.aDH\/∃c,s.aDH[i]? =some c/\d=f c:=by
 unfold fH at h;dsimp only at h;split at h
 .rename_i c a
  rcases List.mem_or_eq_of_mem_set h with h|h
  .exact .inl h
  .exact .inr ⟨c,a,h⟩
 .exact .inl h
theorem ZF{s:Sto}{i:Nat}{f:cH->cH}(h:kQ cH.id s.aDH)(e:∀c,s.aDH[i]? =some c->(f c).id=c.id):kQ cH.id (fH s i f).aDH:=by
 unfold fH;dsimp only;split
 .rename_i c b;exact LJ h (fun d a=>by rw[b] at a;injection a with a;rw[<-a];exact e c b)
 .exact h
theorem AX(s:Sto)(i:Nat)(f:cH->cH):(fH s i f).aDH.length=s.aDH.length:=by
 unfold fH;dsimp only;split
 .exact List.length_set
 .rfl
def mF(s t:Sto):Prop:=s.aDH.length<=t.aDH.length/\∀c∈s.aDH,∃d∈t.aDH,iK c d
theorem mF.refl(s:Sto):mF s s:=⟨lR _,fun c a=>⟨c,a,iK.refl c⟩⟩
theorem Qq{s:Sto}{i:Nat}{f:cH->cH}(g:∀c,s.aDH[i]? =some c->iK c (f c)):mF s (fH s i f):=by
 refine⟨by rw[AX];exact lR _,fun c d=> ?_⟩;obtain⟨k,b,rfl⟩:=List.getElem_of_mem d;unfold fH;dsimp only;split
 .rename_i c a;by_cases e:i=k
  .subst e;rw[gE b] at a;injection a with a;subst a;exact⟨_,List.mem_set b _,g _ (gE b)⟩
  .exact⟨s.aDH[k],List.mem_iff_getElem.2 ⟨k,by rw[List.length_set];exact b,by rw[List.getElem_set_ne e]⟩,iK.refl _⟩
 .exact⟨_,d,iK.refl _⟩
theorem VS{s:Sto}{id:bY}{c d:cH}(h:eW s id=some c)(a:s.aDH[(aW s id).1]? =some d):d=c:=by
 obtain⟨k,f,b,e,_⟩:=Bd h;rw[b] at a;dsimp only at a;rw[gE f,e] at a;injection a with a;exact a.symm
theorem VT{s:Sto}(o:Op)(h:uI s):uI (dA s o)/\mF s (dA s o):=by
 unfold dA;by_cases h0:dO s o=0
 case neg=>rw[iP h0];exact⟨h,mF.refl s⟩
 rw[iN (fun j=>j h0)];obtain⟨d,B,p,G,C,D⟩:=AW h0;dsimp only;by_cases h1:o.aDG=1
 .rw[iP h1];obtain⟨h2,h3⟩:=B h1;obtain⟨n,w⟩:=Qn h2;have E:mE s.aDP (oK s ⟨o.aDN,o.aDW,zZ,[],[]⟩ o.aDW (str "new")):=
   OF (c:=⟨o.aDN,o.aDW,zZ,[],[]⟩) ⟨qs,List.Pairwise.nil,(fun f d=>by cases d),(fun x b=>by cases b),List.Pairwise.nil⟩ h.aDP.1 _ _
  have hle:(aW s o.aDN).1<=s.aDH.length:=by rw[n];exact List.findIdx_le_length
  refine⟨⟨h.aDP,h.aDT,?_,h.aDU,?_,?_,h.aEl⟩,?_,?_⟩
  .exact QDi
  .exact AR (key:=cH.id) h.aEm _ _ n.symm w
  .intro c a;simp only[List.append_assoc,List.mem_append,List.mem_singleton] at a
   rcases a with a|rfl|a
   .exact h.each c (List.mem_of_mem_take a)
   .exact E
   .exact h.each c (List.mem_of_mem_drop a)
  .exact QDi
  .intro c a;refine⟨c,?_,iK.refl c⟩;simp only[List.append_assoc,List.mem_append,List.mem_singleton];have:c∈s.aDH.take (aW s o.aDN).1++s.aDH.drop (aW s o.aDN).1:=by rw[List.take_append_drop];exact a
   rcases List.mem_append.1 this with h|h
   .exact .inl h
   .exact .inr (.inr h)
 rw[iN h1];have q:∀f:cH->cH,(∀c,s.aDH[(aW s o.aDN).1]? =some c->mE s.aDP c->mE s.aDP (f c)/\iK c (f c))->uI (fH s (aW s o.aDN).1 f)/\mF s (fH s (aW s o.aDN).1 f):=by
  intro f z;have hm:∀c,s.aDH[(aW s o.aDN).1]? =some c->mE s.aDP (f c)/\iK c (f c):=fun c a=>z c a (h.each c (List.mem_of_getElem? a))
  refine⟨⟨h.aDP,h.aDT,by rw[AX];exact h.few,h.aDU,ZF h.aEm (fun c a=>(hm c a).2.id),fun c a=> ?_,h.aEl⟩,Qq (fun c a=>(hm c a).2)⟩
  rcases LK a with a|⟨v,y,rfl⟩
  .exact h.each c a
  .exact(hm v y).1
 by_cases h3:o.aDG=3
 .rw[iP h3];obtain⟨c0,g,t,F,m⟩:=AU (p (.inr (.inl h3)));refine q _ fun c a hm=> ?_
  obtain rfl:=VS g a;rw[xQ];have k:mE s.aDP {c with aDM:=nW c.aDM o.aD1 o.val}:=by
   refine⟨Qp hm.aEm _ _ hm.aDM (fun h16=>El (fun e=>t ⟨h3,h16,e⟩)),Jx hm.aEm _ _,fun f i=> ?_,hm.aEB,hm.order⟩
   rcases Qo i with i|rfl
   .exact hm.aEP f i
   .exact SG d h3
  exact⟨OF k h.aDP.1 _ _,⟨rfl,rfl,.inl rfl,List.prefix_append _ _,fun a=>absurd (.inl ⟨h3,a⟩) m⟩⟩
 rw[iN h3];by_cases h4:o.aDG=4
 .rw[iP h4];obtain⟨c0,g,t,F,m⟩:=AU (p (.inr (.inr h4)));refine q _ fun c a hm=> ?_
  obtain rfl:=VS g a;have k:mE s.aDP {c with aD2:=o.to_}:=⟨hm.aDM,hm.aEm,hm.aEP,hm.aEB,hm.order⟩;refine⟨OF k h.aDP.1 _ _,⟨rfl,rfl,.inr ?_,List.prefix_append _ _,fun _=>rfl⟩⟩;show iB c.aD2 o.to_=true
  cases A:iB c.aD2 o.to_
  .exact absurd (.inr ⟨h4,A⟩) m
  .rfl
 rw[iN h4];by_cases h5:o.aDG=5
 .rw[iP h5];refine⟨⟨h.aDP,h.aDT,h.few,h.aDU,h.aEm,h.each,?_⟩,lR _,fun c a=>⟨c,a,iK.refl c⟩⟩;dsimp only;split
  .rename_i r l;intro x b
   rcases List.mem_or_eq_of_mem_set b with b|rfl
   .exact h.aEl x b
   .exact h.aEl r (List.mem_of_getElem? l)
  .exact h.aEl
 rw[iN h5];by_cases h6:o.aDG=6
 .rw[iP h6];split
  .exact⟨h,mF.refl s⟩
  .rename_i j;have:=C h6;refine⟨⟨h.aDP,h.aDT,h.few,?_,h.aEm,h.each,h.aEl⟩,lR _,fun c a=>⟨c,a,iK.refl c⟩⟩;simp only[aL,List.length_singleton];have h7:rC s o.aDN o.aD1=false:=by simpa using j
   have h8:¬64<=s.aDU.length:=fun h=>this ⟨h,h7⟩
   omega
 rw[iN h6];by_cases h7:o.aDG=7
 .rw[iP h7];split
  .exact⟨⟨h.aDP,by have:=h.aDT;show 0<=s.aDT+1;omega,h.few,h.aDU,h.aEm,h.each,h.aEl⟩,lR _,fun c a=>⟨c,a,iK.refl c⟩⟩
  .exact⟨h,mF.refl s⟩
 rw[iN h7];by_cases h8:o.aDG=8
 .rw[iP h8];have h9:=D h8;have h10:=wO d h8;have h11:=h.aDP;refine⟨⟨⟨by show 0<=s.aDP+o.aD3;omega,by show s.aDP+o.aD3<=_;omega⟩,h.aDT,h.few,h.aDU,h.aEm,fun c a=>(h.each c a).more (by show s.aDP<=s.aDP+o.aD3;omega),fun r l=> ?_⟩,lR _,fun c a=>⟨c,a,iK.refl c⟩⟩;have:=h.aEl r l;exact⟨this.1,by show r.aDP<=s.aDP+o.aD3;omega⟩
 rw[iN h8];exact⟨h,mF.refl s⟩
theorem Em{s t u:Sto}{k:Int}{a:bY}(h:mF s t)(f:jV k a t.aDH u.aDH):mF s u:=by
 refine⟨by rw[f.1];exact h.1,fun c g=> ?_⟩;obtain⟨d,j,b⟩:=h.2 c g;obtain⟨i,l,rfl⟩:=List.getElem_of_mem j;obtain⟨L,e,_⟩:=f.2 i _ (gE l);exact⟨_,List.mem_of_getElem? e,⟨b.id,b.aEa,b.aD2,b.log.trans (List.prefix_append _ _),b.shut⟩⟩
theorem ZG(g:Bool)(s:Sto)(o:Op)(r:bY):mF s (if g=true then fT s o r else s):=by
 split
 .exact⟨lR _,fun c a=>⟨c,a,iK.refl c⟩⟩
 .exact mF.refl s
theorem En{s t u:Sto}(h:t.aDH=s.aDH)(k:mF t u):mF s u:=by
 refine⟨by rw[<-h];exact k.1,fun c a=>k.2 c (by rw[h];exact a)⟩
theorem Jy(s:Sto)(o:Op)(h:AS s):AS (bZ s o).1/\mF s (bZ s o).1:=by
 have hw:=pR s o
 rcases a:bZ s o with ⟨t,r,d,e⟩
 rw[a] at hw
 cases hw with
 |none _ _ he j _=>exact⟨h,mF.refl s⟩
 |some m l glass hidden v k i g c b f n=>
  dsimp only;have hm:=Jw h.1 glass o o.aD4;refine⟨⟨?_,b⟩,?_⟩
  .refine Ek ?_ o _ l;split
   .exact(VT o hm).1
   .exact hm
  .refine Em ?_ (uV o _ l _);split
   .exact En (tI glass s o o.aD4) (VT o hm).2
   .exact ZG glass s o o.aD4
theorem Zz:AS kM:=⟨⟨⟨qe,qe⟩,qe,qe,qe,List.Pairwise.nil,(fun c a=>by cases a),(fun r b=>by cases b)⟩,rfl⟩
theorem bC.aE1{K:nP}{base:Nat}{w:World}{s:Sto}{L:List Mix}{ro:Option Value}{c:oD}{n f:Nat}{vr vn vo vt vu vk vb:Value}(h:bC K base w s L ro (.slice c n f) vr vn vo vt vu vk vb){k:Nat}(a:k<L.length)(o:L[k].2.1.isSome=true):
 ∃g la lc,c=some ⟨g,0,none⟩/\L[k].2.1=some (.slice la L[k].1.aDM.length lc)/\w.cell? ⟨g,k * 5+3,none⟩=some (.slice la L[k].1.aDM.length lc)/\base<=g/\g<w.heap.size/\aM lN 4 172 w base (fun _=>False) (.slice la L[k].1.aDM.length lc) L[k].1.aDM/\some g≠(Value.slice la L[k].1.aDM.length lc).ownBlock/\(∀i,w.frozen? ⟨g,i,none⟩=false)/\¬K g:=by
 obtain⟨g,r,e,h1,h2,hm,j,l⟩:=h.aDH.at (dS base K) a qe;obtain⟨z,A,rfl,p,q,t,d,p5⟩:=hm;obtain⟨v,b⟩:=Option.isSome_iff_exists.1 o;have m:=(kK h.aDH a).1 v b;rw[b] at d;obtain⟨rfl,q1,x,y⟩:=d;obtain⟨la,lc,rfl⟩:=q1.slice;subst e;exact⟨g,la,lc,rfl,b,j 3 _ rfl,h1,h2,q1,fun e=>m.2.1 g e.symm rfl,l,fun a=>(h.kept g a).2.1 rfl⟩
theorem DY{K:nP}{base:Nat}{w d c:World}{s:Sto}{L:List Mix}{ro:Option Value}{g n l:Nat}{vr vn vo vt vu vk vb:Value}{k:Nat}(a:bC K base d s L ro (.slice (some ⟨g,0,none⟩) n l) vr vn vo vt vu vk vb)(i:k<L.length)(t:Below w.heap.size w d){v v':Value}(j:L[k].2.1=some v){l':List pY}(q:l'.length<=1000000)(m:d.grownBy c v.ownBlock)(o:aM lN 4 172 c base (fun _=>False) v' l')(p:v'.ownBlock=v.ownBlock\/v'.ownBlock=some d.heap.size):
 Hid (bC K base (c.setCell ⟨g,k * 5+3,none⟩ v') {s with aDH:=s.aDH.set k {L[k].1 with aDM:=l'}} (L.set k ({L[k].1 with aDM:=l'},some v',L[k].2.2)) ro (.slice (some ⟨g,0,none⟩) n l) vr vn vo vt vu vk vb)/\Hid (aN (fun b=>b<base\/K b) w (c.setCell ⟨g,k * 5+3,none⟩ v')):=by
 have r:=(kK a.aDH i).1 v j;have x:=a.aDH.lt g rfl;exact⟨a.aDM i j m o (yW p (lR _)) q,((aJ t).trans ((cY m).mono (fun b _ f e=>f.elim (fun h=>qA ((r.1.lt b e.symm).1)) (fun h=>(a.aEb k i).1 b (cN.2 ⟨v,j,e.symm⟩) h)))).trans ((aI _).mono (fun b _ f e=>f.elim (fun h=>by omega) (fun h=>(a.kept b h).2.1 (by rw[e];rfl))))⟩
theorem Ws{w:World}{base:Nat}{ok:nP}{e:TypeId}{g n c k:Nat}{l:List pY}(h:aM lN 4 e w base ok (.slice (some ⟨g,0,none⟩) n c) l)(b:k<l.length){N:bY}{v:V3}(m:l[k].1=N)(d:cR v):
 aM lN 4 e (((w.setCell ⟨g,k * 4+1,none⟩ (.int .i64 v.1)).setCell ⟨g,k * 4+2,none⟩ (.int .i64 v.2.1)).setCell ⟨g,k * 4+3,none⟩ (.string v.2.2)) base ok (.slice (some ⟨g,0,none⟩) n c) (l.set k (N,v)):=by
 have h1:=aM.setAt bP (j:=1) (x:= .int .i64 v.1) (y:=(l[k].1,(v.1,l[k].2.2))) h b qe (by rintro r ⟨rfl,a⟩;exact⟨rfl,a.1,d.1,a.2.2⟩);have f:(l.set k (l[k].1,(v.1,l[k].2.2)))[k]'(by rw[List.length_set];exact b)=(l[k].1,(v.1,l[k].2.2)):=List.getElem_set_self _;have h2:=aM.setAt bP (j:=2) (x:= .int .i64 v.2.1) (y:=(l[k].1,(v.1,v.2.1,l[k].2.2.2))) h1 (by rw[List.length_set];exact b) qe (by rw[f];rintro r ⟨rfl,a⟩;exact⟨rfl,a.1,d.1,d.2.1,a.2.2.2⟩);rw[List.set_set] at h2;have i:(l.set k (l[k].1,(v.1,v.2.1,l[k].2.2.2)))[k]'(by rw[List.length_set];exact b)=(l[k].1,(v.1,v.2.1,l[k].2.2.2)):=List.getElem_set_self _;have h3:=aM.setAt bP (j:=3) (x:= .string v.2.2) (y:=(l[k].1,v)) h2 (by rw[List.length_set];exact b) qe (by rw[i];rintro r ⟨rfl,a⟩;exact⟨rfl,a.1,d⟩);rw[List.set_set,m] at h3;exact h3
theorem VU{w w':World}{base i:Nat}{v:Value}{l:List pY}{xs:List Value}{x:pY}(g:EZ x)(d:i<=l.length)(h:w.ownsRow base 172 4 v l.length xs/\aX (lN w (fun b=>False/\b<w.heap.size/\some b≠v.ownBlock)) xs l){A:oD}{a:Nat}(c:w'.ownsRow base 172 4 (.slice A (l.length+1) a) (l.length+1) (xs.take (i * 4)++uD x++xs.drop (i * 4))):
 aM lN 4 172 w' base (fun _=>False) (.slice A (l.length+1) a) (l.take i++[x]++l.drop i):=by
 have e:(l.take i++[x]++l.drop i).length=l.length+1:=by simp only[aL,List.length_take,List.length_drop,List.length_cons,List.length_nil];omega
 refine⟨_,by rw[e];exact c,?_⟩;have h2:aX (lN w' (fun b=>False/\b<w'.heap.size/\some b≠(Value.slice A (l.length+1) a).ownBlock)) xs l:=h.2;have h3:=h2.split (fun r x f=>bP.len f) i d;exact(h3.1.append (aX.one ⟨rfl,g⟩)).append h3.2
theorem Wt{l:List (ByteArray×V3)}{N:bY}{v:V3}(h:¬l.findIdx (fun f=>gW N f.1)<l.length):nW l N v=l++[(N,v)]:=by
 unfold nW;dsimp only;rw[List.getElem?_eq_none qo]
theorem aAa{l:List (ByteArray×V3)}{N:bY}{v:V3}{f:Nat}(a:f=l.findIdx (fun f=>gW N f.1))(h:f<l.length):nW l N v=if l[f].1=N then l.set f (N,v) else l.take f++[(N,v)]++l.drop f:=by
 unfold nW;dsimp only;rw[<-a,gE h]
end Go.Proofs.YtheabjeppmdmiaaGreatDoor
