/- Lemmas. -/
import Derived.Test.YtjlkljmickcacaaGreatDoorMax
import Derived.Test.YtjlkljmickcacaaGreatDoorMas
namespace Go.Proofs.YtjlkljmickcacaaGreatDoor
open Go.RowKit
set_option linter.unusedVariables false
set_option linter.unusedSimpArgs false
set_option maxHeartbeats 16000000
open _root_.Go.Proofs.Tryz
set_option maxRecDepth 20000
theorem QDg{p:Prop}(h:p:=by
 rintro⟨h1,h2,h3⟩;exact⟨qo,qo,fun c hc=>by have:=h3 c hc;simpa using this⟩):p:=h
theorem Jm(a:bY):¬a.toList<a.toList:=List.lt_irrefl _
theorem VM{a b c:bY}(h:a.toList<b.toList)(k:b.toList<c.toList):a.toList<c.toList:=List.lt_trans h k
theorem FD{a b:bY}(h:a.toList=b.toList):a=b:=by
 rw[Lib.toList_data,Lib.toList_data] at h;exact ByteArray.ext (Array.ext' h)
theorem Az{a b:bY}:gY a b=true↔¬b.toList<a.toList:=by unfold gY;exact decide_eq_true_iff
theorem Qd(a:bY):gY a a=true:=Az.2 (Jm a)
theorem Jn{a b:bY}:gY a b=false↔b.toList<a.toList:=by unfold gY;simp
theorem Qe{a b:bY}(h:gY a b=true)(c:a≠b):a.toList<b.toList:=by
 rcases Decidable.em (a.toList<b.toList) with h1|h1
 .exact h1
 .exact absurd (FD (List.le_antisymm (Az.1 h) h1)) c
def jH{α:Type}(key:α->ByteArray)(l:List α):Prop:=l.Pairwise (fun a b=>(key a).toList<(key b).toList)
theorem KX{α:Type}{key:α->ByteArray}{l:List α}(h:jH key l){k:Nat}(a:k<l.length):l.findIdx (fun c=>gY (key l[k]) (key c))=k:=by
 rw[List.findIdx_eq a];refine⟨Qd _,fun j hj=> ?_⟩;exact Jn.2 (List.pairwise_iff_getElem.1 h j k qo a hj)
theorem AP{α:Type}{key:α->ByteArray}{l:List α}(h:jH key l)(x:α)(i:Nat)(g:l.findIdx (fun c=>gY (key x) (key c))=i)(q:∀c,l[i]? =some c->key c≠key x):jH key (l.take i++[x]++l.drop i):=by
 have hle:i<=l.length:=g▸List.findIdx_le_length;have n:∀y∈l.take i,(key y).toList<(key x).toList:=by
  intro y d;obtain⟨j,hj,rfl⟩:=List.getElem_of_mem d;rw[List.length_take] at hj;rw[List.getElem_take];have:=List.not_of_lt_findIdx (p:=fun c=>gY (key x) (key c)) (xs:=l) (i:=j) qo;exact Jn.1 (by simpa using this)
 have m:∀y∈l.drop i,(key x).toList<(key y).toList:=by
  rcases Nat.lt_or_ge i l.length with k|o
  .have h1:gY (key x) (key l[i])=true:=by
    have:=List.findIdx_getElem (p:=fun c=>gY (key x) (key c)) (xs:=l) (w:=by rw[g];exact k);simpa [g] using this
   have h2:(key x).toList<(key l[i]).toList:=Qe h1 (fun e=>q l[i] (gE k) e.symm);intro y d;obtain⟨j,hj,rfl⟩:=List.getElem_of_mem d;rw[List.length_drop] at hj;rw[List.getElem_drop]
   rcases Nat.eq_zero_or_pos j with rfl|hp
   .exact h2
   .exact VM h2 (List.pairwise_iff_getElem.1 h i (i+j) k qo qo)
  .rw[List.drop_of_length_le o];intro y d;cases d
 unfold jH;rw[List.append_assoc,List.pairwise_append];refine⟨h.sublist (List.take_sublist _ _),?_,?_⟩
 .rw[List.singleton_append,List.pairwise_cons];exact⟨m,h.sublist (List.drop_sublist _ _)⟩
 .intro a ha b f;rw[List.singleton_append,List.mem_cons] at f
  rcases f with rfl|f
  .exact n a ha
  .exact VM (n a ha) (m b f)
theorem GL{α:Type}{key:α->ByteArray}{l m:List α}(h:jH key l)(he:m.map key=l.map key):jH key m:=by
 have h1:(l.map key).Pairwise (fun a b:ByteArray=>a.toList<b.toList):=List.pairwise_map.2 h;rw[<-he] at h1;exact(List.pairwise_map (f:=key) (R:=fun a b:ByteArray=>a.toList<b.toList)).1 h1
theorem KY{α:Type}{key:α->ByteArray}{l:List α}(h:jH key l){i:Nat}{x:α}(b:∀c,l[i]? =some c->key x=key c):jH key (l.set i x):=by
 refine GL h ?_;refine List.ext_getElem? fun j=> ?_
 rw[List.getElem?_map,List.getElem?_map,List.getElem?_set];by_cases e:i=j
 .subst e;rw[iP rfl];by_cases a:i<l.length
  .rw[iP a,gE a];exact congrArg some (b _ (gE a))
  .rw[iN a,List.getElem?_eq_none qo]
 .rw[iN e]
theorem Ec{s:Sto}(h:jH cB.id s.aDn){k:Nat}(a:k<s.aDn.length):aW s s.aDn[k].id=(k,true)/\dC s s.aDn[k].id=some s.aDn[k]:=by
 have e:=KX h a;have b:aW s s.aDn[k].id=(k,true):=by
  unfold aW;dsimp only;rw[e,iP a,gE a];simp
 refine⟨b,?_⟩;unfold dC;rw[b];exact gE a
theorem Wg{s:Sto}{id:bY}(h:(aW s id).2=true):∃(k:Nat) (d:k<s.aDn.length),aW s id=(k,true)/\s.aDn[k].id=id/\dC s id=some s.aDn[k]/\s.aDn.findIdx (fun c=>gY id c.id)=k:=by
 unfold aW at h;dsimp only at h;by_cases a:s.aDn.findIdx (fun c=>gY id c.id)<s.aDn.length
 .rw[iP a,gE a] at h;have h2:s.aDn[s.aDn.findIdx (fun c=>gY id c.id)].id=id:=by simpa using h
  have b:aW s id=(s.aDn.findIdx (fun c=>gY id c.id),true):=by
   unfold aW;dsimp only;rw[iP a,gE a];simp[h2]
  refine⟨_,a,b,h2,?_,rfl⟩;unfold dC;rw[b];exact gE a
 .rw[iN a] at h;cases h
theorem Qf{s:Sto}{id:bY}(h:(aW s id).2=false):(aW s id).1=s.aDn.findIdx (fun c=>gY id c.id)/\∀c,s.aDn[(aW s id).1]? =some c->c.id≠id:=by
 unfold aW at h ⊢;dsimp only at h ⊢;by_cases b:s.aDn.findIdx (fun c=>gY id c.id)<s.aDn.length
 .rw[iP b] at h ⊢;refine⟨rfl,fun c a e=> ?_⟩;dsimp only at a;rw[a] at h;simp[e] at h
 .rw[iN b] at h ⊢;have hle:s.aDn.findIdx (fun c=>gY id c.id)<=s.aDn.length:=List.findIdx_le_length;refine⟨by dsimp only;omega,fun c a=> ?_⟩;dsimp only at a;rw[List.getElem?_eq_none (lR _)] at a
  cases a
theorem FE{s:Sto}{id:bY}{c:cB}(h:dC s id=some c):∃(k:Nat) (b:k<s.aDn.length),aW s id=(k,true)/\s.aDn[k]=c/\c.id=id/\s.aDn.findIdx (fun c=>gY id c.id)=k:=by
 unfold dC at h;by_cases a:(aW s id).2=true
 .obtain⟨k,b,h1,h2,h3,h4⟩:=Wg a;rw[iP a,h1] at h;dsimp only at h;rw[gE b] at h;injection h with h;exact⟨k,b,h1,h,h▸h2,h4⟩
 .rw[iN a] at h;cases h
structure mE (tick:Int) (c:cB):Prop where
 aDt:c.aDt.length<=16
 aD2:jH Prod.fst c.aDt
 aEv:∀f∈c.aDt,f.2≠bD
 aEh:∀h∈c.log,0<=h.aDx/\h.aDx<=tick
 order:c.log.Pairwise (fun a b=>a.aDx<=b.aDx)
structure uJ (s:Sto):Prop where
 aDx:0<=s.aDx/\s.aDx<=1099511627776
 aDA:0<=s.aDA
 few:s.aDn.length<=64
 aDB:s.aDB.length<=64
 aD2:jH cB.id s.aDn
 each:∀c∈s.aDn,mE s.aDx c
 aD3:∀r∈s.aDr,0<=r.aDx/\r.aDx<=s.aDx
def vH(s:Sto):Prop:=uJ s/\qW s=false
theorem mE.more{t b:Int}{c:cB}(h:mE t c)(d:t<=b):mE b c:=⟨h.aDt,h.aD2,h.aEv,fun x a=>⟨(h.aEh x a).1,qA ((h.aEh x a).2)⟩,h.order⟩
theorem wS{s:Sto}:qW s=false↔s.aDr.length<=256/\s.aDv.length<=256/\∀c∈s.aDn,c.log.length<=256:=by
 unfold qW;rw[Bool.or_eq_false_iff,Bool.or_eq_false_iff,decide_eq_false_iff_not,decide_eq_false_iff_not,List.any_eq_false];constructor
 .exact QDg
 .exact QDg
structure iI (c d:cB):Prop where
 id:d.id=c.id
 aDR:d.aDR=c.aDR
 aDH:d.aDH=c.aDH\/iB c.aDH d.aDH=true
 log:c.log <+:d.log
 shut:c.aDH=gU->d.aDt=c.aDt
theorem iI.refl(c:cB):iI c c:=⟨rfl,rfl,.inl rfl,List.prefix_refl _,fun _=>rfl⟩
def jW(t:Int)(a:bY)(l m:List cB):Prop:=m.length=l.length/\∀(i:Nat) (c:cB),l[i]? =some c->∃L:List uD,m[i]? =some {c with log:=c.log++L}/\∀h∈L,h.aDx=t/\h.aDT=a
theorem jW.refl(t:Int)(a:bY)(l:List cB):jW t a l l:=⟨rfl,fun i c h=>⟨[],by rw[h,List.append_nil],fun _ h=>by cases h⟩⟩
theorem jW.trans{t:Int}{a:bY}{l m n:List cB}(h:jW t a l m)(k:jW t a m n):jW t a l n:=by
 refine⟨k.1.trans h.1,fun i c j=> ?_⟩;obtain⟨L,e,f⟩:=h.2 i c j;obtain⟨M,d,g⟩:=k.2 i _ e;refine⟨L++M,by rw[d,List.append_assoc],fun x b=> ?_⟩
 rcases List.mem_append.1 b with b|b
 .exact f x b
 .exact g x b
theorem YW(s:Sto)(o:Op)(what:bY):jW s.aDx o.aDC s.aDn (lK s o what).aDn:=by
 unfold lK;dsimp only;split
 .unfold fI;dsimp only;split
  .rename_i c f;refine⟨List.length_set,fun i d a=> ?_⟩;rw[List.getElem?_set];by_cases e:s.aDn.findIdx (fun c=>decide (c.id=o.aDu))=i
   .subst e;rw[iP rfl,iP qo];rw[f] at a;injection a with a;subst a;exact⟨[⟨s.aDx,o.aDC,what⟩],rfl,fun h b=>by rw[List.mem_singleton] at b;rw[b];exact⟨rfl,rfl⟩⟩
   .rw[iN e];exact⟨[],by rw[a,List.append_nil],fun _ h=>by cases h⟩
  .exact jW.refl _ _ _
 .exact jW.refl _ _ _
theorem YX(o:Op)(d:Bool)(s:Sto)(x:Ob):jW s.aDx o.aDC s.aDn (cU o d s x).aDn:=by
 unfold cU;split
 .exact YW s o x.arg
 .split
  .exact jW.refl _ _ _
  .split<;>exact jW.refl _ _ _
theorem qZ(o:Op)(d:Bool):∀(l:List Ob) (s:Sto),jW s.aDx o.aDC s.aDn (l.foldl (cU o d) s).aDn
 | [],_=>jW.refl _ _ _
 |x::l,s=>(YX o d s x).trans (by have:=qZ o d l (cU o d s x);rwa [CQ] at this)
theorem Ed{t:Int}{a:bY}{l m:List cB}(h:jW t a l m):m.map cB.id=l.map cB.id:=by
 refine List.ext_getElem? fun j=> ?_
 rw[List.getElem?_map,List.getElem?_map]
 rcases Nat.lt_or_ge j l.length with hj|hj
 .obtain⟨L,e,_⟩:=h.2 j l[j] (gE hj);rw[e,gE hj];rfl
 .rw[List.getElem?_eq_none hj,List.getElem?_eq_none (by rw[h.1];exact hj)]
theorem KZ{t:Int}{a:bY}{l m:List cB}(h:jW t a l m){d:cB}(g:d∈m):∃c∈l,∃L:List uD,d={c with log:=c.log++L}/\∀h∈L,h.aDx=t/\h.aDT=a:=by
 obtain⟨i,b,rfl⟩:=List.getElem_of_mem g;have j:i<l.length:=by rw[<-h.1];exact b
 obtain⟨L,e,f⟩:=h.2 i l[i] (gE j);rw[gE b] at e;injection e with e;exact⟨l[i],List.getElem_mem _,L,e,f⟩
theorem PX{t:Int}{a:bY}{c:cB}{L:List uD}(h:mE t c)(f:0<=t)(d:∀h∈L,h.aDx=t/\h.aDT=a):mE t {c with log:=c.log++L}:=by
 refine⟨h.aDt,h.aD2,h.aEv,fun x b=> ?_,?_⟩
 .rcases List.mem_append.1 b with b|b
  .exact h.aEh x b
  .rw[(d x b).1];exact⟨f,Int.le_refl _⟩
 .rw[List.pairwise_append];refine⟨h.order,?_,fun x b y g=> ?_⟩
  .refine List.pairwise_iff_getElem.2 fun i j e hj _=> ?_
   rw[(d _ (List.getElem_mem e)).1,(d _ (List.getElem_mem hj)).1];exact Int.le_refl _
  .rw[(d y g).1];exact(h.aEh x b).2
def jN(a b:List wH)(tick:Int):Prop:=∃l,b=a++l/\∀r∈l,r.aDx=tick/\r.open_=true
theorem jN.refl(a:List wH)(t:Int):jN a a t:=⟨[],qs,fun n h=>absurd h qs⟩
theorem jN.trans{a b c:List wH}{t:Int}(h:jN a b t)(k:jN b c t):jN a c t:=by
 exact QCb
theorem PY(s:Sto)(o:Op)(r:bY):jN s.aDr (fU s o r).aDr s.aDx:=⟨_,rfl,fun n a=>by rw[List.mem_singleton] at a;rw[a];exact⟨rfl,rfl⟩⟩
theorem Jo(o:Op)(d:Bool)(s:Sto)(x:Ob):jN s.aDr (cU o d s x).aDr s.aDx:=by
 unfold cU;split
 .rw[(VL _ _ _).2];exact jN.refl _ _
 .split
  .exact PY _ _ _
  .split<;>exact jN.refl _ _
theorem GM(o:Op)(d:Bool):∀(l:List Ob) (s:Sto),jN s.aDr (l.foldl (cU o d) s).aDr s.aDx
 | [],_=>jN.refl _ _
 |x::l,s=>(Jo o d s x).trans (by have:=GM o d l (cU o d s x);rwa [CQ] at this)
theorem nG(g:Bool)(s:Sto)(o:Op)(r:bY):(if g=true then fU s o r else s).aDn=s.aDn:=by split<;>rfl
theorem RZ(g:Bool)(s:Sto)(o:Op)(r:bY):jN s.aDr (if g=true then fU s o r else s).aDr s.aDx:=by
 split
 .exact PY _ _ _
 .exact jN.refl _ _
theorem VN{a b:List wH}{t:Int}(h:jN a b t)(e:0<=t)(ha:∀r∈a,0<=r.aDx/\r.aDx<=t):∀r∈b,0<=r.aDx/\r.aDx<=t:=by
 obtain⟨l,rfl,d⟩:=h;intro r c
 rcases List.mem_append.1 c with c|c
 .exact ha r c
 .rw[(d r c).1];exact⟨e,Int.le_refl _⟩
theorem Jp{s:Sto}(h:uJ s)(g:Bool)(o:Op)(r:bY):uJ (if g=true then fU s o r else s):=by
 have h1:=VN (RZ g s o r) h.aDx.1 h.aD3;have a:=RS g s o r;have c:=gX g s o r;have b:=nG g s o r;exact⟨by rw[a];exact h.aDx,by rw[c.2];exact h.aDA,by rw[b];exact h.few,by rw[c.1];exact h.aDB,by rw[b];exact h.aD2,by rw[b,a];exact h.each,by rw[a];exact h1⟩
theorem Ee{s:Sto}(h:uJ s)(o:Op)(d:Bool)(l:List Ob):uJ (l.foldl (cU o d) s):=by
 have a:=FY o d l s;have f:=nF o d l s;have e:=qZ o d l s;refine⟨by rw[a];exact h.aDx,by rw[f.2];exact h.aDA,by rw[e.1];exact h.few,by rw[f.1];exact h.aDB,GL h.aD2 (Ed e),?_,?_⟩
 .intro c j;obtain⟨b,i,L,rfl,g⟩:=KZ e j;rw[a];exact PX (h.each b i) h.aDx.1 g
 .rw[a];exact VN (GM o d l s) h.aDx.1 h.aD3
theorem QDh{p:Prop}(h:p:=by
 simp only[aL,List.length_singleton,List.length_take,List.length_drop];omega):p:=h
def oA(l:List (ByteArray×V3))(name:bY)(v:V3):List (ByteArray×V3):=
 let i:=l.findIdx (fun f=>gY name f.1)
 match l[i]? with
 |none=>l++[(name,v)]
 |some f=>if f.1=name then l.set i (name,v) else l.take i++[(name,v)]++l.drop i
theorem rQ(c:cB)(name:bY)(v:V3):oG c name v={c with aDt:=oA c.aDt name v}:=by
 unfold oG oA;dsimp only
 cases c.aDt[c.aDt.findIdx (fun f=>gY name f.1)]? with
 |none=>rfl
 |some f=>dsimp only;split<;>rfl
theorem Qg{l:List (ByteArray×V3)}{name:bY}{v:V3}{f:ByteArray×V3}(h:f∈oA l name v):f∈l\/f=(name,v):=by
 unfold oA at h;dsimp only at h;split at h
 .rcases List.mem_append.1 h with h|h
  .exact .inl h
  .exact .inr (by simpa using h)
 .split at h
  .rcases List.mem_or_eq_of_mem_set h with h|h
   .exact .inl h
   .exact .inr h
  .rw[List.append_assoc,List.mem_append,List.mem_append] at h
   rcases h with h|h|h
   .exact .inl (List.mem_of_mem_take h)
   .exact .inr (by simpa using h)
   .exact .inl (List.mem_of_mem_drop h)
theorem Jq{l:List (ByteArray×V3)}(h:jH Prod.fst l)(name:bY)(v:V3):jH Prod.fst (oA l name v):=by
 unfold oA;dsimp only;split
 .rename_i d;have hle:l.findIdx (fun f=>gY name f.1)<=l.length:=List.findIdx_le_length;have e:l.length<=l.findIdx (fun f=>gY name f.1):=List.getElem?_eq_none_iff.1 d;have:=AP h (name,v) l.length (by show l.findIdx (fun c=>gY name c.1)=_;omega) (fun c a=>by rw[List.getElem?_eq_none (lR _)] at a;cases a);rwa [List.take_length,List.drop_length,List.append_nil] at this
 .rename_i f b;split
  .rename_i he;exact KY h (fun c a=>by rw[b] at a;injection a with a;rw[<-a];exact he.symm)
  .rename_i he;exact AP h (name,v) _ rfl (fun c a=>by
    have:l[l.findIdx (fun f=>gY name f.1)]? =some c:=a;rw[b] at this;injection this with this;rw[<-this];exact he)
theorem YY{l:List (ByteArray×V3)}(h:jH Prod.fst l){f:ByteArray×V3}(b:f∈l):l[l.findIdx (fun g=>gY f.1 g.1)]? =some f:=by
 obtain⟨k,a,rfl⟩:=List.getElem_of_mem b;have:=KX (key:=Prod.fst) h a;rw[this];exact gE a
theorem Qh{l:List (ByteArray×V3)}(h:jH Prod.fst l)(name:bY)(v:V3)(a:l.length<=16)(c:16<=l.length->∃f∈l,f.1=name):(oA l name v).length<=16:=by
 by_cases h16:16<=l.length
 .obtain⟨f,b,rfl⟩:=c h16;have e:=YY h b;unfold oA;dsimp only;rw[e];dsimp only;rw[iP rfl,List.length_set];exact a
 .unfold oA;dsimp only;split
  .rw[aL,List.length_singleton];omega
  .split
   .rw[List.length_set];exact a
   .rw[aL,aL,List.length_singleton,List.length_take,List.length_drop];omega
theorem Ef{c:cB}{name:bY}(h:gM c name≠bD):∃f∈c.aDt,f.1=name:=by
 unfold gM at h
 cases a:c.aDt.find? (fun f=>decide (f.1=name)) with
 |none=>rw[a] at h;exact absurd rfl h
 |some f=>exact⟨f,List.mem_of_find?_eq_some a,by simpa using List.find?_some a⟩
theorem SA{o:Op}(h:gG o=true)(a:o.aDo=3):o.val≠bD:=by
 unfold gG at h;split at h
 .cases h
 split at h
 .cases h
 unfold fY at h;dsimp only at h;rw[iN qo,iN qo,iP a] at h;simp only[Bool.and_eq_true,decide_eq_true_eq] at h;exact h.1.2
theorem wT{o:Op}(h:gG o=true)(a:o.aDo=8):0<o.aDK/\o.aDK<=1099511627776:=by
 unfold gG at h;split at h
 .cases h
 split at h
 .cases h
 unfold fY at h;dsimp only at h;rw[iN qo,iN qo,iN qo,iN qo,iN qo,iN qo,iP a] at h;simp only[Bool.and_eq_true,decide_eq_true_eq] at h;exact h.1
theorem vI{s:Sto}{o:Op}(h:iJ s o=0):∃c,dC s o.aDu=some c/\¬(o.aDo=3/\16<=c.aDt.length/\gM c o.aDJ=bD)/\¬(o.aDo≠2/\256<=c.log.length)/\¬((o.aDo=3/\c.aDH=gU)\/(o.aDo=4/\iB c.aDH o.to_=false)):=by
 unfold iJ at h
 cases a:dC s o.aDu with
 |none=>rw[a] at h;exact absurd (show (10:Int)=0 from h) qe
 |some c=>
  rw[a] at h;dsimp only at h;refine⟨c,rfl,?_⟩;split at h
  .cases h
  rename_i h1;split at h
  .cases h
  rename_i h2;split at h
  .cases h
  rename_i h3;exact⟨h1,h2,h3⟩
theorem vJ{s:Sto}{o:Op}(h:dW s o=0):gG o=true/\(o.aDo=1->(aW s o.aDu).2=false/\s.aDn.length<64)/\(o.aDo=2\/o.aDo=3\/o.aDo=4->iJ s o=0)/\(o.aDo=5->iU s o=0)/\(o.aDo=6->¬(64<=s.aDB.length/\sC s o.aDu o.aDJ=false))/\(o.aDo=8->s.aDx<=1099511627776 - o.aDK):=by
 have b:=lS h;unfold dW at h;rw[b,iN qe] at h;refine⟨b,fun a=> ?_,fun a=> ?_,fun a=> ?_,fun a=> ?_,fun a=> ?_⟩
 .rw[iP a] at h;split at h
  .cases h
  rename_i h1;split at h
  .cases h
  exact⟨by simpa using h1,qo⟩
 .rw[iN qo,iP a] at h;exact h
 .rw[iN qo,iN qo,iP a] at h;exact h
 .rw[iN qo,iN qo,iN qo,iP a] at h;split at h
  .cases h
  rename_i h1;exact h1
 .rw[iN qo,iN qo,iN qo,iN qo,iP a] at h;split at h
  .cases h
  omega
theorem NT{s:Sto}{c:cB}(h:mE s.aDx c)(e:0<=s.aDx)(a b:bY):mE s.aDx (oN s c a b):=PX h e (L:=[⟨s.aDx,a,b⟩]) (a:=a) (fun x d=>by rw[List.mem_singleton] at d;rw[d];exact⟨rfl,rfl⟩)
theorem vK{s:Sto}{i:Nat}{f:cB->cB}{d:cB}(h:d∈(fI s i f).aDn):d∈s.aDn\/∃c,s.aDn[i]? =some c/\d=f c:=by
 unfold fI at h;dsimp only at h;split at h
 .rename_i c a
  rcases List.mem_or_eq_of_mem_set h with h|h
  .exact .inl h
  .exact .inr ⟨c,a,h⟩
 .exact .inl h
theorem YZ{s:Sto}{i:Nat}{f:cB->cB}(h:jH cB.id s.aDn)(e:∀c,s.aDn[i]? =some c->(f c).id=c.id):jH cB.id (fI s i f).aDn:=by
 unfold fI;dsimp only;split
 .rename_i c b;exact KY h (fun d a=>by rw[b] at a;injection a with a;rw[<-a];exact e c b)
 .exact h
theorem AQ(s:Sto)(i:Nat)(f:cB->cB):(fI s i f).aDn.length=s.aDn.length:=by
 unfold fI;dsimp only;split
 .exact List.length_set
 .rfl
def mF(s t:Sto):Prop:=s.aDn.length<=t.aDn.length/\∀c∈s.aDn,∃d∈t.aDn,iI c d
theorem mF.refl(s:Sto):mF s s:=⟨lR _,fun c a=>⟨c,a,iI.refl c⟩⟩
theorem Qi{s:Sto}{i:Nat}{f:cB->cB}(g:∀c,s.aDn[i]? =some c->iI c (f c)):mF s (fI s i f):=by
 refine⟨by rw[AQ];exact lR _,fun c d=> ?_⟩;obtain⟨k,b,rfl⟩:=List.getElem_of_mem d;unfold fI;dsimp only;split
 .rename_i c a;by_cases e:i=k
  .subst e;rw[gE b] at a;injection a with a;subst a;exact⟨_,List.mem_set b _,g _ (gE b)⟩
  .exact⟨s.aDn[k],List.mem_iff_getElem.2 ⟨k,by rw[List.length_set];exact b,by rw[List.getElem_set_ne e]⟩,iI.refl _⟩
 .exact⟨_,d,iI.refl _⟩
theorem JG{s:Sto}{id:bY}{c d:cB}(h:dC s id=some c)(a:s.aDn[(aW s id).1]? =some d):d=c:=by
 obtain⟨k,f,b,e,_⟩:=FE h;rw[b] at a;dsimp only at a;rw[gE f,e] at a;injection a with a;exact a.symm
theorem VO{s:Sto}(o:Op)(h:uJ s):uJ (dA s o)/\mF s (dA s o):=by
 unfold dA;by_cases h0:dW s o=0
 case neg=>rw[iP h0];exact⟨h,mF.refl s⟩
 rw[iN (fun j=>j h0)];obtain⟨d,B,p,G,C,D⟩:=vJ h0;dsimp only;by_cases h1:o.aDo=1
 .rw[iP h1];obtain⟨h2,h3⟩:=B h1;obtain⟨n,w⟩:=Qf h2;have E:mE s.aDx (oN s ⟨o.aDu,o.aDC,xG,[],[]⟩ o.aDC (str "new")):=
   NT (c:=⟨o.aDu,o.aDC,xG,[],[]⟩) ⟨qs,List.Pairwise.nil,(fun f d=>by cases d),(fun x b=>by cases b),List.Pairwise.nil⟩ h.aDx.1 _ _
  have hle:(aW s o.aDu).1<=s.aDn.length:=by rw[n];exact List.findIdx_le_length
  refine⟨⟨h.aDx,h.aDA,?_,h.aDB,?_,?_,h.aD3⟩,?_,?_⟩
  .exact QDh
  .exact AP (key:=cB.id) h.aD2 _ _ n.symm w
  .intro c a;simp only[List.append_assoc,List.mem_append,List.mem_singleton] at a
   rcases a with a|rfl|a
   .exact h.each c (List.mem_of_mem_take a)
   .exact E
   .exact h.each c (List.mem_of_mem_drop a)
  .exact QDh
  .intro c a;refine⟨c,?_,iI.refl c⟩;simp only[List.append_assoc,List.mem_append,List.mem_singleton];have:c∈s.aDn.take (aW s o.aDu).1++s.aDn.drop (aW s o.aDu).1:=by rw[List.take_append_drop];exact a
   rcases List.mem_append.1 this with h|h
   .exact .inl h
   .exact .inr (.inr h)
 rw[iN h1];have q:∀f:cB->cB,(∀c,s.aDn[(aW s o.aDu).1]? =some c->mE s.aDx c->mE s.aDx (f c)/\iI c (f c))->uJ (fI s (aW s o.aDu).1 f)/\mF s (fI s (aW s o.aDu).1 f):=by
  intro f z;have hm:∀c,s.aDn[(aW s o.aDu).1]? =some c->mE s.aDx (f c)/\iI c (f c):=fun c a=>z c a (h.each c (List.mem_of_getElem? a))
  refine⟨⟨h.aDx,h.aDA,by rw[AQ];exact h.few,h.aDB,YZ h.aD2 (fun c a=>(hm c a).2.id),fun c a=> ?_,h.aD3⟩,Qi (fun c a=>(hm c a).2)⟩
  rcases vK a with a|⟨v,y,rfl⟩
  .exact h.each c a
  .exact(hm v y).1
 by_cases h3:o.aDo=3
 .rw[iP h3];obtain⟨c0,g,t,F,m⟩:=vI (p (.inr (.inl h3)));refine q _ fun c a hm=> ?_
  obtain rfl:=JG g a;rw[rQ];have k:mE s.aDx {c with aDt:=oA c.aDt o.aDJ o.val}:=by
   refine⟨Qh hm.aD2 _ _ hm.aDt (fun h16=>Ef (fun e=>t ⟨h3,h16,e⟩)),Jq hm.aD2 _ _,fun f i=> ?_,hm.aEh,hm.order⟩
   rcases Qg i with i|rfl
   .exact hm.aEv f i
   .exact SA d h3
  exact⟨NT k h.aDx.1 _ _,⟨rfl,rfl,.inl rfl,List.prefix_append _ _,fun a=>absurd (.inl ⟨h3,a⟩) m⟩⟩
 rw[iN h3];by_cases h4:o.aDo=4
 .rw[iP h4];obtain⟨c0,g,t,F,m⟩:=vI (p (.inr (.inr h4)));refine q _ fun c a hm=> ?_
  obtain rfl:=JG g a;have k:mE s.aDx {c with aDH:=o.to_}:=⟨hm.aDt,hm.aD2,hm.aEv,hm.aEh,hm.order⟩;refine⟨NT k h.aDx.1 _ _,⟨rfl,rfl,.inr ?_,List.prefix_append _ _,fun _=>rfl⟩⟩;show iB c.aDH o.to_=true
  cases A:iB c.aDH o.to_
  .exact absurd (.inr ⟨h4,A⟩) m
  .rfl
 rw[iN h4];by_cases h5:o.aDo=5
 .rw[iP h5];refine⟨⟨h.aDx,h.aDA,h.few,h.aDB,h.aD2,h.each,?_⟩,lR _,fun c a=>⟨c,a,iI.refl c⟩⟩;dsimp only;split
  .rename_i r l;intro x b
   rcases List.mem_or_eq_of_mem_set b with b|rfl
   .exact h.aD3 x b
   .exact h.aD3 r (List.mem_of_getElem? l)
  .exact h.aD3
 rw[iN h5];by_cases h6:o.aDo=6
 .rw[iP h6];split
  .exact⟨h,mF.refl s⟩
  .rename_i j;have:=C h6;refine⟨⟨h.aDx,h.aDA,h.few,?_,h.aD2,h.each,h.aD3⟩,lR _,fun c a=>⟨c,a,iI.refl c⟩⟩;simp only[aL,List.length_singleton];have h7:sC s o.aDu o.aDJ=false:=by simpa using j
   have h8:¬64<=s.aDB.length:=fun h=>this ⟨h,h7⟩
   omega
 rw[iN h6];by_cases h7:o.aDo=7
 .rw[iP h7];split
  .exact⟨⟨h.aDx,by have:=h.aDA;show 0<=s.aDA+1;omega,h.few,h.aDB,h.aD2,h.each,h.aD3⟩,lR _,fun c a=>⟨c,a,iI.refl c⟩⟩
  .exact⟨h,mF.refl s⟩
 rw[iN h7];by_cases h8:o.aDo=8
 .rw[iP h8];have h9:=D h8;have h10:=wT d h8;have h11:=h.aDx;refine⟨⟨⟨by show 0<=s.aDx+o.aDK;omega,by show s.aDx+o.aDK<=_;omega⟩,h.aDA,h.few,h.aDB,h.aD2,fun c a=>(h.each c a).more (by show s.aDx<=s.aDx+o.aDK;omega),fun r l=> ?_⟩,lR _,fun c a=>⟨c,a,iI.refl c⟩⟩;have:=h.aD3 r l;exact⟨this.1,by show r.aDx<=s.aDx+o.aDK;omega⟩
 rw[iN h8];exact⟨h,mF.refl s⟩
theorem Eg{s t u:Sto}{k:Int}{a:bY}(h:mF s t)(f:jW k a t.aDn u.aDn):mF s u:=by
 refine⟨by rw[f.1];exact h.1,fun c g=> ?_⟩;obtain⟨d,j,b⟩:=h.2 c g;obtain⟨i,l,rfl⟩:=List.getElem_of_mem j;obtain⟨L,e,_⟩:=f.2 i _ (gE l);exact⟨_,List.mem_of_getElem? e,⟨b.id,b.aDR,b.aDH,b.log.trans (List.prefix_append _ _),b.shut⟩⟩
theorem ZA(g:Bool)(s:Sto)(o:Op)(r:bY):mF s (if g=true then fU s o r else s):=by
 split
 .exact⟨lR _,fun c a=>⟨c,a,iI.refl c⟩⟩
 .exact mF.refl s
theorem Eh{s t u:Sto}(h:t.aDn=s.aDn)(k:mF t u):mF s u:=by
 refine⟨by rw[<-h];exact k.1,fun c a=>k.2 c (by rw[h];exact a)⟩
theorem Jr(s:Sto)(o:Op)(h:vH s):vH (cR s o).1/\mF s (cR s o).1:=by
 have hw:=mD s o
 rcases a:cR s o with ⟨t,r,d,e⟩
 rw[a] at hw
 cases hw with
 |none _ _ he j _=>exact⟨h,mF.refl s⟩
 |some m l glass hidden v k i g c b f n=>
  dsimp only;have hm:=Jp h.1 glass o o.aDM;refine⟨⟨?_,b⟩,?_⟩
  .refine Ee ?_ o _ l;split
   .exact(VO o hm).1
   .exact hm
  .refine Eg ?_ (qZ o _ l _);split
   .exact Eh (nG glass s o o.aDM) (VO o hm).2
   .exact ZA glass s o o.aDM
theorem Zj:vH lD:=⟨⟨⟨qe,qe⟩,qe,qe,qe,List.Pairwise.nil,(fun c a=>by cases a),(fun r b=>by cases b)⟩,rfl⟩
theorem bC.aEI{K:nP}{base:Nat}{w:World}{s:Sto}{L:List Mix}{ro:Option Value}{c:oD}{n f:Nat}{vr vn vo vt vu vk vb:Value}(h:bC K base w s L ro (.slice c n f) vr vn vo vt vu vk vb){k:Nat}(a:k<L.length)(o:L[k].2.1.isSome=true):
 ∃g la lc,c=some ⟨g,0,none⟩/\L[k].2.1=some (.slice la L[k].1.aDt.length lc)/\w.cell? ⟨g,k * 5+3,none⟩=some (.slice la L[k].1.aDt.length lc)/\base<=g/\g<w.heap.size/\aM lN 4 101 w base (fun _=>False) (.slice la L[k].1.aDt.length lc) L[k].1.aDt/\some g≠(Value.slice la L[k].1.aDt.length lc).ownBlock/\(∀i,w.frozen? ⟨g,i,none⟩=false)/\¬K g:=by
 obtain⟨g,r,e,h1,h2,hm,j,l⟩:=h.aDn.at (dR base K) a qe;obtain⟨z,A,rfl,p,q,t,d,p5⟩:=hm;obtain⟨v,b⟩:=Option.isSome_iff_exists.1 o;have m:=(kM h.aDn a).1 v b;rw[b] at d;obtain⟨rfl,q1,x,y⟩:=d;obtain⟨la,lc,rfl⟩:=q1.slice;subst e;exact⟨g,la,lc,rfl,b,j 3 _ rfl,h1,h2,q1,fun e=>m.2.1 g e.symm rfl,l,fun a=>(h.kept g a).2.1 rfl⟩
theorem DP{K:nP}{base:Nat}{w d c:World}{s:Sto}{L:List Mix}{ro:Option Value}{g n l:Nat}{vr vn vo vt vu vk vb:Value}{k:Nat}(a:bC K base d s L ro (.slice (some ⟨g,0,none⟩) n l) vr vn vo vt vu vk vb)(i:k<L.length)(t:Below w.heap.size w d){v v':Value}(j:L[k].2.1=some v){l':List pX}(q:l'.length<=1000000)(m:d.grownBy c v.ownBlock)(o:aM lN 4 101 c base (fun _=>False) v' l')(p:v'.ownBlock=v.ownBlock\/v'.ownBlock=some d.heap.size):
 Hid (bC K base (c.setCell ⟨g,k * 5+3,none⟩ v') {s with aDn:=s.aDn.set k {L[k].1 with aDt:=l'}} (L.set k ({L[k].1 with aDt:=l'},some v',L[k].2.2)) ro (.slice (some ⟨g,0,none⟩) n l) vr vn vo vt vu vk vb)/\Hid (aN (fun b=>b<base\/K b) w (c.setCell ⟨g,k * 5+3,none⟩ v')):=by
 have r:=(kM a.aDn i).1 v j;have x:=a.aDn.lt g rfl;exact⟨a.aDt i j m o (yX p (lR _)) q,((aJ t).trans ((cX m).mono (fun b _ f e=>f.elim (fun h=>qA ((r.1.lt b e.symm).1)) (fun h=>(a.aDS k i).1 b (cM.2 ⟨v,j,e.symm⟩) h)))).trans ((aI _).mono (fun b _ f e=>f.elim (fun h=>by omega) (fun h=>(a.kept b h).2.1 (by rw[e];rfl))))⟩
theorem Wh{w:World}{base:Nat}{ok:nP}{e:TypeId}{g n c k:Nat}{l:List pX}(h:aM lN 4 e w base ok (.slice (some ⟨g,0,none⟩) n c) l)(b:k<l.length){N:bY}{v:V3}(m:l[k].1=N)(d:cT v):
 aM lN 4 e (((w.setCell ⟨g,k * 4+1,none⟩ (.int .i64 v.1)).setCell ⟨g,k * 4+2,none⟩ (.int .i64 v.2.1)).setCell ⟨g,k * 4+3,none⟩ (.string v.2.2)) base ok (.slice (some ⟨g,0,none⟩) n c) (l.set k (N,v)):=by
 have h1:=aM.setAt bP (j:=1) (x:= .int .i64 v.1) (y:=(l[k].1,(v.1,l[k].2.2))) h b qe (by rintro r ⟨rfl,a⟩;exact⟨rfl,a.1,d.1,a.2.2⟩);have f:(l.set k (l[k].1,(v.1,l[k].2.2)))[k]'(by rw[List.length_set];exact b)=(l[k].1,(v.1,l[k].2.2)):=List.getElem_set_self _;have h2:=aM.setAt bP (j:=2) (x:= .int .i64 v.2.1) (y:=(l[k].1,(v.1,v.2.1,l[k].2.2.2))) h1 (by rw[List.length_set];exact b) qe (by rw[f];rintro r ⟨rfl,a⟩;exact⟨rfl,a.1,d.1,d.2.1,a.2.2.2⟩);rw[List.set_set] at h2;have i:(l.set k (l[k].1,(v.1,v.2.1,l[k].2.2.2)))[k]'(by rw[List.length_set];exact b)=(l[k].1,(v.1,v.2.1,l[k].2.2.2)):=List.getElem_set_self _;have h3:=aM.setAt bP (j:=3) (x:= .string v.2.2) (y:=(l[k].1,v)) h2 (by rw[List.length_set];exact b) qe (by rw[i];rintro r ⟨rfl,a⟩;exact⟨rfl,a.1,d⟩);rw[List.set_set,m] at h3;exact h3
theorem VP{w w':World}{base i:Nat}{v:Value}{l:List pX}{xs:List Value}{x:pX}(g:ER x)(d:i<=l.length)(h:w.ownsRow base 101 4 v l.length xs/\aX (lN w (fun b=>False/\b<w.heap.size/\some b≠v.ownBlock)) xs l){A:oD}{a:Nat}(c:w'.ownsRow base 101 4 (.slice A (l.length+1) a) (l.length+1) (xs.take (i * 4)++uE x++xs.drop (i * 4))):
 aM lN 4 101 w' base (fun _=>False) (.slice A (l.length+1) a) (l.take i++[x]++l.drop i):=by
 have e:(l.take i++[x]++l.drop i).length=l.length+1:=by simp only[aL,List.length_take,List.length_drop,List.length_cons,List.length_nil];omega
 refine⟨_,by rw[e];exact c,?_⟩;have h2:aX (lN w' (fun b=>False/\b<w'.heap.size/\some b≠(Value.slice A (l.length+1) a).ownBlock)) xs l:=h.2;have h3:=h2.split (fun r x f=>bP.len f) i d;exact(h3.1.append (aX.one ⟨rfl,g⟩)).append h3.2
theorem Wi{l:List (ByteArray×V3)}{N:bY}{v:V3}(h:¬l.findIdx (fun f=>gY N f.1)<l.length):oA l N v=l++[(N,v)]:=by
 unfold oA;dsimp only;rw[List.getElem?_eq_none qo]
theorem Zk{l:List (ByteArray×V3)}{N:bY}{v:V3}{f:Nat}(a:f=l.findIdx (fun f=>gY N f.1))(h:f<l.length):oA l N v=if l[f].1=N then l.set f (N,v) else l.take f++[(N,v)]++l.drop f:=by
 unfold oA;dsimp only;rw[<-a,gE h]
def Js(K:nP)(base:Nat)(s:Sto)(L:List Mix)(ro:Option Value)(vc vr vn vo vt vu vk vb:Value)(k:Nat)(c:cB)(o:Option Value)(w:World)(e:Ending)(w':World):Prop:=e=.returned (.tuple #[])/\∃u,bC K base w' {s with aDn:=s.aDn.set k c} (L.set k (c,some u,o)) ro vc vr vn vo vt vu vk vb/\aN (fun b=>b<base\/K b) w w'
theorem Jt{K:nP}{base:Nat}(s:Sto)(L:List Mix)(ro:Option Value)(ca:oD)(n cc:Nat)(vr vn vo vt vu vk vb:Value)(k:Nat)(w:World)(hO:bC K base w s L ro (.slice ca n cc) vr vn vo vt vu vk vb)(C:k<L.length)(hs:L[k].2.1.isSome=true)(N:bY)(hN:N.size<=cP)(v:V3)(hv:cT v)(hl:L[k].1.aDt.length<=900000)(g:Nat)(b2:ca=some ⟨g,0,none⟩):
 Calls prog 108 #[.pointer (some ⟨g,k * 5,none⟩),.string N,dE v] w (Js K base s L ro (.slice ca n cc) vr vn vo vt vu vk vb k (oG L[k].1 N v) L[k].2.2 w):=by
 obtain⟨g',fa,fc,X,bm,H,b9,b4,q,bn,Y,b8⟩:=hO.aEI C hs;subst b2;injection X with X;injection X with X _ _;subst X;obtain⟨t,au⟩:∃O:Obj,O=.cells #[.string N] 9:=⟨_,rfl⟩;obtain⟨z,av⟩:∃O:Obj,O=.cells #[.int .i64 v.1,.int .i64 v.2.1,.string v.2.2] 48:=⟨_,rfl⟩;obtain⟨W0,S⟩:=xE ((w.alloc t).alloc z);have ag:Below w.heap.size w W0:=by rw[S];exact aC (aB _ _) (aB _ _)
 have h1:W0.heap[w.heap.size]? =some t:=by rw[S];exact aE (aK _ _ _ rfl) (aB _ _)
 have h2:W0.heap[w.heap.size+1]? =some z:=by rw[S];exact aK _ _ _ qs
 obtain⟨A,ah⟩:∃A,w.heap[g]? =some A:=⟨_,Array.getElem?_eq_getElem b4⟩;have D:Hid (∀(w':World),(w'.heap[g]? =some A/\w'.heap[w.heap.size]? =some t/\w'.heap[w.heap.size+1]? =some z)->w'.cell? ⟨g,k * 5+3,none⟩=some (.slice fa L[k].1.aDt.length fc)/\w'.frozen? ⟨g,k * 5+3,none⟩=false/\g<w'.heap.size/\w'.cell? ⟨w.heap.size,0,none⟩=some (.string N)/\w.heap.size<w'.heap.size/\w'.cell? ⟨w.heap.size+1,0,none⟩=some (.int .i64 v.1)/\w'.cell? ⟨w.heap.size+1,1,none⟩=some (.int .i64 v.2.1)/\w'.cell? ⟨w.heap.size+1,2,none⟩=some (.string v.2.2)/\w.heap.size+1<w'.heap.size):=aA (fun w' C=>by
  have h2:=C.2.1;have h3:=C.2.2;rw[au] at h2;rw[av] at h3;exact⟨(World.cell?_of_block (a:=⟨g,k * 5+3,none⟩) (C.1.trans ah.symm)).trans H,(World.frozen?_of_block (a:=⟨g,k * 5+3,none⟩) (C.1.trans ah.symm)).trans (Y _),aD C.1,aQ h2 0 _ rfl,aD h2,aQ h3 0 _ rfl,aQ h3 1 _ rfl,aQ h3 2 _ rfl,aD h3⟩)
 have I:Hid (W0.heap[g]? =some A/\W0.heap[w.heap.size]? =some t/\W0.heap[w.heap.size+1]? =some z):=aA ⟨aE ah ag,h1,h2⟩;obtain⟨f,hf⟩:=xE (L[k].1.aDt.findIdx (fun x=>gY N x.1));have T:=aA (UG _ L[k].1.aDt N w.heap.size W0 ((q.on bP ag).aEl bP qo) ⟨(D.o _ I.o).2.2.2.1,aD h1⟩);have bd:Hid (eU (fun x=>gY N x.1) L[k].1.aDt=if f<L[k].1.aDt.length then (f:Int) else -1):=aA (by unfold eU;rw[<-hf]);obtain⟨ad,al,bc,aa,ba,az,bf,aq⟩:=SS hO q bn bm hf ag hN hv;have ab:Hid (some w.heap.size≠(Value.slice fa L[k].1.aDt.length fc).ownBlock/\some (w.heap.size+1)≠(Value.slice fa L[k].1.aDt.length fc).ownBlock):=aA ⟨fun e=>qA ((q.lt _ e.symm).2),fun e=>qA ((q.lt _ e.symm).2)⟩;unfold aP at T;rw[rQ];unfold dE;rw[au,av] at S;have bh:=aA S;have bl:=hO.size;generalize eU (fun x=>gY N x.1) L[k].1.aDt=ix at *;generalize hx:L[k].1=x at *;have ae:=aA hx;clear hf S ag h1 h2 ah hO au av H Y q bn bm hN hv hx;obtain⟨c0,c1,j,l,m,v0,v1,v2,o⟩:=D.o _ I.o;by_cases R:f<x.aDt.length
 .have h1:ix=(f:Int):=by rw[bd.o,iP R]
  subst h1;have i0:¬((f:Int)<0):=qo;have i1:(f:Int)<(x.aDt.length:Int):=qo;go_enter func108,ntmps108;go_upto_region 1 with (fail)
  rw[<-bh.o];go_wp2_with fail;refine T.o.mono ?_;rintro e w1 ⟨rfl,G⟩;have F:=qB az G;have i:Hid (w1.heap[g]? =some A/\w1.heap[w.heap.size]? =some t/\w1.heap[w.heap.size+1]? =some z):=aA ⟨aE I.o.1 G,aE I.o.2.1 G,aE I.o.2.2 G⟩;clear c0 c1 j l m v0 v1 v2 o G T;obtain⟨c0,c1,j,l,m,v0,v1,v2,o⟩:=D.o _ i.o;obtain⟨p,r,b3,cb,b6,⟨rfl,b5⟩,H,Y⟩:=(al.o.on bP F.o).at bP R qe;subst b3;obtain⟨y,hy⟩:=xE (x.aDt[f]);rw[<-hy] at H b5;obtain⟨V,aw⟩:∃V,w1.heap[p]? =some V:=⟨_,Array.getElem?_eq_getElem b6⟩;have a6:Hid (∀(w':World),(w'.heap[g]? =some A/\w'.heap[w.heap.size]? =some t/\w'.heap[w.heap.size+1]? =some z/\w'.heap[p]? =some V)->w'.cell? ⟨p,f * 4,none⟩=some (.string y.1)/\p<w'.heap.size):=aA (fun w' C=>by
   have h0:=H 0 _ rfl;rw[Nat.add_zero] at h0;exact⟨(World.cell?_of_block (a:=⟨p,f * 4,none⟩) (C.2.2.2.trans aw.symm)).trans h0,aD C.2.2.2⟩)
  have bz:=aA hy;have bx:Hid (w1.cell? ⟨p,f * 4+1,none⟩=some (.int .i64 y.2.1)/\w1.cell? ⟨p,f * 4+1+1,none⟩=some (.int .i64 y.2.2.1)/\w1.cell? ⟨p,f * 4+1+2,none⟩=some (.string y.2.2.2)):=aA ⟨H 1 _ rfl,H 2 _ rfl,H 3 _ rfl⟩;have ak:=aA Y;have a8:Hid (w1.heap[g]? =some A/\w1.heap[w.heap.size]? =some t/\w1.heap[w.heap.size+1]? =some z/\w1.heap[p]? =some V):=aA ⟨i.o.1,i.o.2.1,i.o.2.2,aw⟩;have bg:Hid (oA x.aDt N v=if y.1=N then x.aDt.set f (N,v) else x.aDt.take f++[(N,v)]++x.aDt.drop f):=aA (by rw[hy];exact Zk ba.o R);clear hy H Y aw;obtain⟨y0,yz⟩:=a6.o _ a8.o;go_upto_region 5 with (fail)
  refine cD 10 [(0,false),(1,false),(2,false),(3,false),(4,false),(5,false),(6,false),(7,false),(8,false),(9,false)] [(10,true)] (fun w'=>w'.heap[g]? =some A/\w'.heap[w.heap.size]? =some t/\w'.heap[w.heap.size+1]? =some z/\w'.heap[p]? =some V) (by kernel_rfl) (by kernel_rfl) a8.o ?_;simp only[List.cons_append,List.nil_append]
  repeat (refine dK rfl (fun K c=> ?_);unfold rd;go_simp;refine c _ (fun Z h1=> ?_) ?_;(· clear c K c0 c1 j l m v0 v1 v2 o y0 yz;obtain⟨c0,c1,j,l,m,v0,v1,v2,o⟩:=D.o _ ⟨h1.1,h1.2.1,h1.2.2.1⟩;obtain⟨y0,yz⟩:=a6.o _ h1;unfold rd;go_simp);clear c K)
  refine bJ rfl (fun B d=> ?_);unfold mv;go_simp;refine d _ _ (fun h=>absurd h qe) ?_;clear d B;unfold cJ;have bb:=aA (al.o.on bP F.o);have a7:Hid ((y.1.toList==N.toList)=decide (y.1=N)):=aA (by rw[Bool.eq_iff_iff,bQ,decide_eq_true_eq];exact⟨FD,fun h=>by rw[h]⟩);generalize (y.1.toList==N.toList)=E at *
  cases E
  rotate_left
  .have af:Hid (y.1=N):=aA (of_decide_eq_true a7.o.symm);clear y0;go_upto_region 6 with (fail)
   have HZ:Hid (w1.drew.heap[g]? =some A/\w1.drew.heap[w.heap.size]? =some t/\w1.drew.heap[w.heap.size+1]? =some z):=aA i.o;refine cD 8 [(0,false),(1,false),(2,false),(3,false),(4,false),(5,false),(6,false),(7,false)] [(8,true)] (fun w'=>w'.heap[g]? =some A/\w'.heap[w.heap.size]? =some t/\w'.heap[w.heap.size+1]? =some z) (by kernel_rfl) (by kernel_rfl) i.o ?_;simp only[List.cons_append,List.nil_append]
   repeat (refine dK rfl (fun K c=> ?_);unfold rd;go_simp;refine c _ (fun Z h1=> ?_) ?_;(· clear c K c0 c1 j l m v0 v1 v2 o;obtain⟨c0,c1,j,l,m,v0,v1,v2,o⟩:=D.o _ h1;unfold rd;go_simp);clear c K)
   have z1:=ak.o (f * 4+1);have z2:=ak.o (f * 4+1+1);have z3:=ak.o (f * 4+1+2);obtain⟨y1,y2,y3⟩:=bx.o;refine bJ rfl (fun B d=> ?_);unfold mv;go_simp;refine d _ _ (fun h=>absurd h qe) ?_;clear d B;unfold cJ;go_wp2;go_returns;have b7:x.aDt[f].1=N:=bz.o▸af.o;have J:=Wh bb.o R b7 aq.o;have br:aN (fun b=>b≠p) w1 (((w1.setCell ⟨p,f * 4+1,none⟩ (.int .i64 v.1)).setCell ⟨p,f * 4+2,none⟩ (.int .i64 v.2.1)).setCell ⟨p,f * 4+3,none⟩ (.string v.2.2)):=((aI _).trans (aI _)).trans (aI _);have b1:=(ad.o.on F.o).aDJ C aa.o (br.mono (fun b _ hb e=>hb (by rw[e];rfl))) J (by rw[List.length_set,ae.o]);have b0:¬K p:=(ad.o.aDS k C).1 p (cM.2 ⟨_,aa.o,rfl⟩);have W:({x with aDt:=oA x.aDt N v}:cB)={L[k].1 with aDt:=x.aDt.set f (N,v)}:=by rw[bg.o,iP af.o,<-ae.o]
   rw[W];exact⟨rfl,_,b1.on (Below.refl _ _).drew.drew,((aJ F.o).trans (br.mono (fun b _ hb e=>hb.elim (fun h=>by omega) (fun h=>b0 (e▸h))))).trans (aJ (Below.refl _ _).drew.drew)⟩
  .have af:Hid (¬y.1=N):=aA (of_decide_eq_false a7.o.symm);clear y0;go_upto_region 2 with (fail)
   trace_state
   refine cD 13 [(0,false),(1,false),(2,false),(3,false),(4,false),(5,false),(6,false),(7,false),(8,false),(9,true),(10,true),(11,false),(12,false)] [(13,true)] (fun w'=>w'.heap[g]? =some A/\w'.heap[w.heap.size]? =some t/\w'.heap[w.heap.size+1]? =some z) (by kernel_rfl) (by kernel_rfl) i.o ?_;simp only[List.cons_append,List.nil_append]
   repeat (refine dK rfl (fun K c=> ?_);unfold rd;go_simp;refine c _ (fun Z h1=> ?_) ?_;(· clear c K c0 c1 j l m v0 v1 v2 o;obtain⟨c0,c1,j,l,m,v0,v1,v2,o⟩:=D.o _ h1;unfold rd;go_simp);clear c K)
   refine bJ rfl (fun B d=> ?_);unfold mv;go_simp;refine d _ _ (fun _=>⟨aE i.o.1 (aB _ _).drew.drew,aE i.o.2.1 (aB _ _).drew.drew,aE i.o.2.2 (aB _ _).drew.drew⟩) ?_;clear d B c0 c1 j l m v0 v1 v2 o;obtain⟨Q,ai⟩:=xE ((w1.alloc (.cells #[.string N,.int .i64 v.1,.int .i64 v.2.1,.string v.2.2] 101)).drew.drew);have M:Below w1.heap.size w1 Q:=by rw[ai];exact(aB _ _).drew.drew
   have bp:Q.heap[w1.heap.size]? =some (.cells (uE (N,v)).toArray 101 (0,0)):=by rw[ai];exact aK _ _ _ rfl
   have ar:Hid (Q.heap[g]? =some A/\Q.heap[w.heap.size]? =some t/\Q.heap[w.heap.size+1]? =some z):=aA ⟨aE i.o.1 M,aE i.o.2.1 M,aE i.o.2.2 M⟩;obtain⟨xs,ay,ax⟩:=bb.o.on bP M;have bs:=aA (RX Q base (some ⟨p,0,none⟩) x.aDt.length fc f xs (uE (N,v)) w1.heap.size 1 101 ay qo qo (lT bl (aC F.o M).size) bp rfl (by intro u hu;simp only[uE,List.mem_cons,List.not_mem_nil,or_false] at hu;rcases hu with rfl|rfl|rfl|rfl<;>rfl) (aX.aDX (fun r x hr=>bP.one hr) ax) (fun e=>by have e2:some p=some w1.heap.size:=e;injection e2 with e3;omega));obtain⟨bt,a1,bw⟩:=aY (⟨ay,ax⟩:_/\_) (aC F.o M) ai;rw[<-bw.o];clear ai M bp ay ax;refine bJ rfl (fun B d=> ?_);unfold mv;go_simp;refine bs.o.mono ?_;rintro e P ⟨A',c',rfl,bq,q,bj⟩;have J:=VP (x:=(N,v)) ⟨bf.o,aq.o⟩ qo bt.o bq;have U:Hid (P.heap[g]? =some A/\P.heap[w.heap.size]? =some t/\P.heap[w.heap.size+1]? =some z):=aA ⟨gN ar.o.1 (Below.refl _ _) q bc.o,gN ar.o.2.1 (Below.refl _ _) q ab.o.1,gN ar.o.2.2 (Below.refl _ _) q ab.o.2⟩;have aj:(x.aDt.take f++[(N,v)]++x.aDt.drop f).length<=1000000:=by simp only[aL,List.length_take,List.length_drop,List.length_cons,List.length_nil];omega
   obtain⟨an,ao⟩:=DP (ad.o.on a1.o) C a1.o aa.o aj q J bj;refine d _ _ (fun _=>U.o) ?_;clear d B J q bj bq aj;obtain⟨c0,c1,j,l,m,v0,v1,v2,o⟩:=D.o _ U.o
   repeat (refine dK rfl (fun K c=> ?_);unfold rd;go_simp;refine c _ (fun Z h1=> ?_) ?_;(· clear c K c0 c1 j l m v0 v1 v2 o;obtain⟨c0,c1,j,l,m,v0,v1,v2,o⟩:=D.o _ h1;unfold rd;go_simp);clear c K)
   refine bJ rfl (fun B d=> ?_);unfold mv;go_simp;refine d _ _ (fun h=>absurd h qe) ?_;clear d B c0 c1 j l m v0 v1 v2 o;unfold cJ;go_wp2;go_returns;have W:({x with aDt:=oA x.aDt N v}:cB)={L[k].1 with aDt:=x.aDt.take f++[(N,v)]++x.aDt.drop f}:=by rw[bg.o,iN af.o,<-ae.o]
   rw[W];exact⟨rfl,_,an.o,ao.o⟩
 .have h1:ix= -1:=by rw[bd.o,iN R]
  subst h1;go_enter func108,ntmps108;go_upto_region 1 with (fail)
  rw[<-bh.o];go_wp2_with fail;refine T.o.mono ?_;rintro e w1 ⟨rfl,G⟩;have F:=qB az G;have i:Hid (w1.heap[g]? =some A/\w1.heap[w.heap.size]? =some t/\w1.heap[w.heap.size+1]? =some z):=aA ⟨aE I.o.1 G,aE I.o.2.1 G,aE I.o.2.2 G⟩;clear c0 c1 j l m v0 v1 v2 o G T;obtain⟨c0,c1,j,l,m,v0,v1,v2,o⟩:=D.o _ i.o;have bu:Hid (oA x.aDt N v=x.aDt++[(N,v)]):=aA (Wi (by rw[<-ba.o];exact R));go_upto_region 4 with (fail)
  refine cD 12 [(0,false),(1,false),(2,false),(3,false),(4,false),(5,false),(6,false),(7,false),(8,true),(9,true),(10,false),(11,false)] [(12,true)] (fun w'=>w'.heap[g]? =some A/\w'.heap[w.heap.size]? =some t/\w'.heap[w.heap.size+1]? =some z) (by kernel_rfl) (by kernel_rfl) i.o ?_;simp only[List.cons_append,List.nil_append]
  repeat (refine dK rfl (fun K c=> ?_);unfold rd;go_simp;refine c _ (fun Z h1=> ?_) ?_;(· clear c K c0 c1 j l m v0 v1 v2 o;obtain⟨c0,c1,j,l,m,v0,v1,v2,o⟩:=D.o _ h1;unfold rd;go_simp);clear c K)
  refine bJ rfl (fun B d=> ?_);unfold mv;go_simp;refine d _ _ (fun _=>⟨aE i.o.1 (aB _ _).drew,aE i.o.2.1 (aB _ _).drew,aE i.o.2.2 (aB _ _).drew⟩) ?_;clear d B;refine bJ rfl (fun B d=> ?_);unfold mv;refine jC (base:=base) xJ bP rfl (.tmp 33) (.tmp 37) rfl _ x.aDt rfl (al.o.on bP (aC F.o (aB _ _).drew)) w1.heap.size 1 _ _ _ (N,v) rfl (aK _ _ _ rfl) ⟨rfl,bf.o,aq.o⟩ qo qe (lT bl (aC F.o (aB _ _).drew).size) ?_;intro l' bo A' c' P J q bk;have U:Hid (P.heap[g]? =some A/\P.heap[w.heap.size]? =some t/\P.heap[w.heap.size+1]? =some z):=aA ⟨gN i.o.1 (aB _ _).drew q bc.o,gN i.o.2.1 (aB _ _).drew q ab.o.1,gN i.o.2.2 (aB _ _).drew q ab.o.2⟩;have be:=aA bo.o;have aj:l'.length<=1000000:=by rw[be.o,aL];simp only[List.length_cons,List.length_nil];omega
  obtain⟨an,ao⟩:=DP (ad.o.on (aC F.o (aB _ _).drew)) C (aC F.o (aB _ _).drew) aa.o aj q J bk;refine d _ _ (fun _=>U.o) ?_;clear d B J q bk bo c0 c1 j l m v0 v1 v2 o;obtain⟨c0,c1,j,l,m,v0,v1,v2,o⟩:=D.o _ U.o
  repeat (refine dK rfl (fun K c=> ?_);unfold rd;go_simp;refine c _ (fun Z h1=> ?_) ?_;(· clear c K c0 c1 j l m v0 v1 v2 o;obtain⟨c0,c1,j,l,m,v0,v1,v2,o⟩:=D.o _ h1;unfold rd;go_simp);clear c K)
  refine bJ rfl (fun B d=> ?_);unfold mv;go_simp;refine d _ _ (fun h=>absurd h qe) ?_;clear d B c0 c1 j l m v0 v1 v2 o;unfold cJ;go_wp2;go_returns;have W:({x with aDt:=oA x.aDt N v}:cB)={L[k].1 with aDt:=l'}:=by rw[bu.o,<-be.o,<-ae.o]
  rw[W];exact⟨rfl,_,an.o,ao.o⟩
end Go.Proofs.YtjlkljmickcacaaGreatDoor
