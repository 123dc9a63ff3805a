/- Lemmas. -/
import Derived.Test.YtkglnboglppgnaaGreatDoorMax
import Derived.Test.YtkglnboglppgnaaGreatDoorMas
namespace Go.Proofs.YtkglnboglppgnaaGreatDoor
open Go.RowKit
set_option linter.unusedVariables false
set_option linter.unusedSimpArgs false
set_option maxHeartbeats 16000000
open _root_.Go.Proofs.Tryz
set_option maxRecDepth 20000
theorem QDh{p:Prop}(h:p:=by
 rintro⟨h1,h2,h3⟩;exact⟨qo,qo,fun c hc=>by have:=h3 c hc;simpa using this⟩):p:=h
theorem Jb(a:bY):¬a.toList<a.toList:=List.lt_irrefl _
theorem VA{a b c:bY}(h:a.toList<b.toList)(k:b.toList<c.toList):a.toList<c.toList:=List.lt_trans h k
theorem FE{a b:bY}(h:a.toList=b.toList):a=b:=by
 rw[Lib.toList_data,Lib.toList_data] at h;exact ByteArray.ext (Array.ext' h)
theorem Al{a b:bY}:gW a b=true↔¬b.toList<a.toList:=by unfold gW;exact decide_eq_true_iff
theorem Pm(a:bY):gW a a=true:=Al.2 (Jb a)
theorem Jc{a b:bY}:gW a b=false↔b.toList<a.toList:=by unfold gW;simp
theorem Pn{a b:bY}(h:gW a b=true)(c:a≠b):a.toList<b.toList:=by
 rcases Decidable.em (a.toList<b.toList) with h1|h1
 .exact h1
 .exact absurd (FE (List.le_antisymm (Al.1 h) h1)) c
def kM{α:Type}(key:α->ByteArray)(l:List α):Prop:=l.Pairwise (fun a b=>(key a).toList<(key b).toList)
theorem Dr{α:Type}{key:α->ByteArray}{l:List α}(h:kM key l){k:Nat}(a:k<l.length):l.findIdx (fun c=>gW (key l[k]) (key c))=k:=by
 rw[List.findIdx_eq a];refine⟨Pm _,fun j hj=> ?_⟩;exact Jc.2 (List.pairwise_iff_getElem.1 h j k qo a hj)
theorem AM{α:Type}{key:α->ByteArray}{l:List α}(h:kM key l)(x:α)(i:Nat)(g:l.findIdx (fun c=>gW (key x) (key c))=i)(q:∀c,l[i]? =some c->key c≠key x):kM key (l.take i++[x]++l.drop i):=by
 have hle:i<=l.length:=g▸List.findIdx_le_length;have n:∀y∈l.take i,(key y).toList<(key x).toList:=by
  intro y d;obtain⟨j,hj,rfl⟩:=List.getElem_of_mem d;rw[List.length_take] at hj;rw[List.getElem_take];have:=List.not_of_lt_findIdx (p:=fun c=>gW (key x) (key c)) (xs:=l) (i:=j) qo;exact Jc.1 (by simpa using this)
 have m:∀y∈l.drop i,(key x).toList<(key y).toList:=by
  rcases Nat.lt_or_ge i l.length with k|o
  .have h1:gW (key x) (key l[i])=true:=by
    have:=List.findIdx_getElem (p:=fun c=>gW (key x) (key c)) (xs:=l) (w:=by rw[g];exact k);simpa [g] using this
   have h2:(key x).toList<(key l[i]).toList:=Pn h1 (fun e=>q l[i] (gE k) e.symm);intro y d;obtain⟨j,hj,rfl⟩:=List.getElem_of_mem d;rw[List.length_drop] at hj;rw[List.getElem_drop]
   rcases Nat.eq_zero_or_pos j with rfl|hp
   .exact h2
   .exact VA h2 (List.pairwise_iff_getElem.1 h i (i+j) k qo qo)
  .rw[List.drop_of_length_le o];intro y d;cases d
 unfold kM;rw[List.append_assoc,List.pairwise_append];refine⟨h.sublist (List.take_sublist _ _),?_,?_⟩
 .rw[List.singleton_append,List.pairwise_cons];exact⟨m,h.sublist (List.drop_sublist _ _)⟩
 .intro a ha b f;rw[List.singleton_append,List.mem_cons] at f
  rcases f with rfl|f
  .exact n a ha
  .exact VA (n a ha) (m b f)
theorem GK{α:Type}{key:α->ByteArray}{l m:List α}(h:kM key l)(he:m.map key=l.map key):kM key m:=by
 have h1:(l.map key).Pairwise (fun a b:ByteArray=>a.toList<b.toList):=List.pairwise_map.2 h;rw[<-he] at h1;exact(List.pairwise_map (f:=key) (R:=fun a b:ByteArray=>a.toList<b.toList)).1 h1
theorem KT{α:Type}{key:α->ByteArray}{l:List α}(h:kM key l){i:Nat}{x:α}(b:∀c,l[i]? =some c->key x=key c):kM key (l.set i x):=by
 refine GK h ?_;refine List.ext_getElem? fun j=> ?_
 rw[List.getElem?_map,List.getElem?_map,List.getElem?_set];by_cases e:i=j
 .subst e;rw[iP rfl];by_cases a:i<l.length
  .rw[iP a,gE a];exact congrArg some (b _ (gE a))
  .rw[iN a,List.getElem?_eq_none qo]
 .rw[iN e]
theorem Vo{s:Sto}{id:bY}(h:(aY s id).2=true):∃(k:Nat) (d:k<s.aC2.length),aY s id=(k,true)/\s.aC2[k].id=id/\eV s id=some s.aC2[k]/\s.aC2.findIdx (fun c=>gW id c.id)=k:=by
 unfold aY at h;dsimp only at h;by_cases a:s.aC2.findIdx (fun c=>gW id c.id)<s.aC2.length
 .rw[iP a,gE a] at h;have h2:s.aC2[s.aC2.findIdx (fun c=>gW id c.id)].id=id:=by simpa using h
  have b:aY s id=(s.aC2.findIdx (fun c=>gW id c.id),true):=by
   unfold aY;dsimp only;rw[iP a,gE a];simp[h2]
  refine⟨_,a,b,h2,?_,rfl⟩;unfold eV;rw[b];exact gE a
 .rw[iN a] at h;cases h
theorem Pp{s:Sto}{id:bY}(h:(aY s id).2=false):(aY s id).1=s.aC2.findIdx (fun c=>gW id c.id)/\∀c,s.aC2[(aY s id).1]? =some c->c.id≠id:=by
 unfold aY at h ⊢;dsimp only at h ⊢;by_cases b:s.aC2.findIdx (fun c=>gW id c.id)<s.aC2.length
 .rw[iP b] at h ⊢;refine⟨rfl,fun c a e=> ?_⟩;dsimp only at a;rw[a] at h;simp[e] at h
 .rw[iN b] at h ⊢;have hle:s.aC2.findIdx (fun c=>gW id c.id)<=s.aC2.length:=List.findIdx_le_length;refine⟨by dsimp only;omega,fun c a=> ?_⟩;dsimp only at a;rw[List.getElem?_eq_none (lR _)] at a
  cases a
theorem Am{s:Sto}{id:bY}{c:cI}(h:eV s id=some c):∃(k:Nat) (b:k<s.aC2.length),aY s id=(k,true)/\s.aC2[k]=c/\c.id=id/\s.aC2.findIdx (fun c=>gW id c.id)=k:=by
 unfold eV at h;by_cases a:(aY s id).2=true
 .obtain⟨k,b,h1,h2,h3,h4⟩:=Vo a;rw[iP a,h1] at h;dsimp only at h;rw[gE b] at h;injection h with h;exact⟨k,b,h1,h,h▸h2,h4⟩
 .rw[iN a] at h;cases h
structure lY (tick:Int) (c:cI):Prop where
 aC9:c.aC9.length<=16
 aDH:kM Prod.fst c.aC9
 aEa:∀f∈c.aC9,f.2≠bF
 aDX:∀h∈c.log,0<=h.aDb/\h.aDb<=tick
 order:c.log.Pairwise (fun a b=>a.aDb<=b.aDb)
structure uC (s:Sto):Prop where
 aDb:0<=s.aDb/\s.aDb<=1099511627776
 aDg:0<=s.aDg
 few:s.aC2.length<=64
 aDd:s.aDd.length<=64
 aDH:kM cI.id s.aC2
 each:∀c∈s.aC2,lY s.aDb c
 aDI:∀r∈s.aC5,0<=r.aDb/\r.aDb<=s.aDb
def AN(s:Sto):Prop:=uC s/\qO s=false
theorem lY.more{t b:Int}{c:cI}(h:lY t c)(d:t<=b):lY b c:=⟨h.aC9,h.aDH,h.aEa,fun x a=>⟨(h.aDX x a).1,qA ((h.aDX x a).2)⟩,h.order⟩
theorem AO{s:Sto}:qO s=false↔s.aC5.length<=256/\s.aC8.length<=256/\∀c∈s.aC2,c.log.length<=256:=by
 unfold qO;rw[Bool.or_eq_false_iff,Bool.or_eq_false_iff,decide_eq_false_iff_not,decide_eq_false_iff_not,List.any_eq_false];constructor
 .exact QDh
 .exact QDh
structure iH (c d:cI):Prop where
 id:d.id=c.id
 aDv:d.aDv=c.aDv
 aDo:d.aDo=c.aDo\/gZ c.aDo d.aDo=true
 log:c.log <+:d.log
 shut:c.aDo=oE->d.aC9=c.aC9
theorem iH.refl(c:cI):iH c c:=⟨rfl,rfl,.inl rfl,List.prefix_refl _,fun _=>rfl⟩
def jS(t:Int)(a:bY)(l m:List cI):Prop:=m.length=l.length/\∀(i:Nat) (c:cI),l[i]? =some c->∃L:List tW,m[i]? =some {c with log:=c.log++L}/\∀h∈L,h.aDb=t/\h.aDC=a
theorem jS.refl(t:Int)(a:bY)(l:List cI):jS t a l l:=⟨rfl,fun i c h=>⟨[],by rw[h,List.append_nil],fun _ h=>by cases h⟩⟩
theorem jS.trans{t:Int}{a:bY}{l m n:List cI}(h:jS t a l m)(k:jS t a m n):jS t a l n:=by
 refine⟨k.1.trans h.1,fun i c j=> ?_⟩;obtain⟨L,e,f⟩:=h.2 i c j;obtain⟨M,d,g⟩:=k.2 i _ e;refine⟨L++M,by rw[d,List.append_assoc],fun x b=> ?_⟩
 rcases List.mem_append.1 b with b|b
 .exact f x b
 .exact g x b
theorem YK(s:Sto)(o:Op)(what:bY):jS s.aDb o.aDi s.aC2 (lW s o what).aC2:=by
 unfold lW;dsimp only;split
 .unfold fH;dsimp only;split
  .rename_i c f;refine⟨List.length_set,fun i d a=> ?_⟩;rw[List.getElem?_set];by_cases e:s.aC2.findIdx (fun c=>decide (c.id=o.aDa))=i
   .subst e;rw[iP rfl,iP qo];rw[f] at a;injection a with a;subst a;exact⟨[⟨s.aDb,o.aDi,what⟩],rfl,fun h b=>by rw[List.mem_singleton] at b;rw[b];exact⟨rfl,rfl⟩⟩
   .rw[iN e];exact⟨[],by rw[a,List.append_nil],fun _ h=>by cases h⟩
  .exact jS.refl _ _ _
 .exact jS.refl _ _ _
theorem YL(o:Op)(d:Bool)(s:Sto)(x:Ob):jS s.aDb o.aDi s.aC2 (cY o d s x).aC2:=by
 unfold cY;split
 .exact YK s o x.arg
 .split
  .exact jS.refl _ _ _
  .split<;>exact jS.refl _ _ _
theorem uP(o:Op)(d:Bool):∀(l:List Ob) (s:Sto),jS s.aDb o.aDi s.aC2 (l.foldl (cY o d) s).aC2
 | [],_=>jS.refl _ _ _
 |x::l,s=>(YL o d s x).trans (by have:=uP o d l (cY o d s x);rwa [wY] at this)
theorem Ds{t:Int}{a:bY}{l m:List cI}(h:jS t a l m):m.map cI.id=l.map cI.id:=by
 refine List.ext_getElem? fun j=> ?_
 rw[List.getElem?_map,List.getElem?_map]
 rcases Nat.lt_or_ge j l.length with hj|hj
 .obtain⟨L,e,_⟩:=h.2 j l[j] (gE hj);rw[e,gE hj];rfl
 .rw[List.getElem?_eq_none hj,List.getElem?_eq_none (by rw[h.1];exact hj)]
theorem Dt{t:Int}{a:bY}{l m:List cI}(h:jS t a l m){d:cI}(g:d∈m):∃c∈l,∃L:List tW,d={c with log:=c.log++L}/\∀h∈L,h.aDb=t/\h.aDC=a:=by
 obtain⟨i,b,rfl⟩:=List.getElem_of_mem g;have j:i<l.length:=by rw[<-h.1];exact b
 obtain⟨L,e,f⟩:=h.2 i l[i] (gE j);rw[gE b] at e;injection e with e;exact⟨l[i],List.getElem_mem _,L,e,f⟩
theorem PD{t:Int}{a:bY}{c:cI}{L:List tW}(h:lY t c)(f:0<=t)(d:∀h∈L,h.aDb=t/\h.aDC=a):lY t {c with log:=c.log++L}:=by
 refine⟨h.aC9,h.aDH,h.aEa,fun x b=> ?_,?_⟩
 .rcases List.mem_append.1 b with b|b
  .exact h.aDX x b
  .rw[(d x b).1];exact⟨f,Int.le_refl _⟩
 .rw[List.pairwise_append];refine⟨h.order,?_,fun x b y g=> ?_⟩
  .refine List.pairwise_iff_getElem.2 fun i j e hj _=> ?_
   rw[(d _ (List.getElem_mem e)).1,(d _ (List.getElem_mem hj)).1];exact Int.le_refl _
  .rw[(d y g).1];exact(h.aDX x b).2
def jJ(a b:List vW)(tick:Int):Prop:=∃l,b=a++l/\∀r∈l,r.aDb=tick/\r.open_=true
theorem jJ.refl(a:List vW)(t:Int):jJ a a t:=⟨[],qs,fun n h=>absurd h qs⟩
theorem jJ.trans{a b c:List vW}{t:Int}(h:jJ a b t)(k:jJ b c t):jJ a c t:=by
 exact QCa
theorem PE(s:Sto)(o:Op)(r:bY):jJ s.aC5 (eJ s o r).aC5 s.aDb:=⟨_,rfl,fun n a=>by rw[List.mem_singleton] at a;rw[a];exact⟨rfl,rfl⟩⟩
theorem Jd(o:Op)(d:Bool)(s:Sto)(x:Ob):jJ s.aC5 (cY o d s x).aC5 s.aDb:=by
 unfold cY;split
 .rw[(DR _ _ _).2];exact jJ.refl _ _
 .split
  .exact PE _ _ _
  .split<;>exact jJ.refl _ _
theorem xZ(o:Op)(d:Bool):∀(l:List Ob) (s:Sto),jJ s.aC5 (l.foldl (cY o d) s).aC5 s.aDb
 | [],_=>jJ.refl _ _
 |x::l,s=>(Jd o d s x).trans (by have:=xZ o d l (cY o d s x);rwa [wY] at this)
theorem tB(g:Bool)(s:Sto)(o:Op)(r:bY):(if g=true then eJ s o r else s).aC2=s.aC2:=by split<;>rfl
theorem RJ(g:Bool)(s:Sto)(o:Op)(r:bY):jJ s.aC5 (if g=true then eJ s o r else s).aC5 s.aDb:=by
 split
 .exact PE _ _ _
 .exact jJ.refl _ _
theorem VB{a b:List vW}{t:Int}(h:jJ a b t)(e:0<=t)(ha:∀r∈a,0<=r.aDb/\r.aDb<=t):∀r∈b,0<=r.aDb/\r.aDb<=t:=by
 obtain⟨l,rfl,d⟩:=h;intro r c
 rcases List.mem_append.1 c with c|c
 .exact ha r c
 .rw[(d r c).1];exact⟨e,Int.le_refl _⟩
theorem Je{s:Sto}(h:uC s)(g:Bool)(o:Op)(r:bY):uC (if g=true then eJ s o r else s):=by
 have h1:=VB (RJ g s o r) h.aDb.1 h.aDI;have a:=QW g s o r;have c:=gU g s o r;have b:=tB g s o r;exact⟨by rw[a];exact h.aDb,by rw[c.2];exact h.aDg,by rw[b];exact h.few,by rw[c.1];exact h.aDd,by rw[b];exact h.aDH,by rw[b,a];exact h.each,by rw[a];exact h1⟩
theorem Du{s:Sto}(h:uC s)(o:Op)(d:Bool)(l:List Ob):uC (l.foldl (cY o d) s):=by
 have a:=tL o d l s;have f:=mZ o d l s;have e:=uP o d l s;refine⟨by rw[a];exact h.aDb,by rw[f.2];exact h.aDg,by rw[e.1];exact h.few,by rw[f.1];exact h.aDd,GK h.aDH (Ds e),?_,?_⟩
 .intro c j;obtain⟨b,i,L,rfl,g⟩:=Dt e j;rw[a];exact PD (h.each b i) h.aDb.1 g
 .rw[a];exact VB (xZ o d l s) h.aDb.1 h.aDI
theorem QDi{p:Prop}(h:p:=by
 simp only[aL,List.length_singleton,List.length_take,List.length_drop];omega):p:=h
def nT(l:List (ByteArray×V3))(name:bY)(v:V3):List (ByteArray×V3):=
 let i:=l.findIdx (fun f=>gW name f.1)
 match l[i]? with
 |none=>l++[(name,v)]
 |some f=>if f.1=name then l.set i (name,v) else l.take i++[(name,v)]++l.drop i
theorem xL(c:cI)(name:bY)(v:V3):nY c name v={c with aC9:=nT c.aC9 name v}:=by
 unfold nY nT;dsimp only
 cases c.aC9[c.aC9.findIdx (fun f=>gW name f.1)]? with
 |none=>rfl
 |some f=>dsimp only;split<;>rfl
theorem Pq{l:List (ByteArray×V3)}{name:bY}{v:V3}{f:ByteArray×V3}(h:f∈nT l name v):f∈l\/f=(name,v):=by
 unfold nT at h;dsimp only at h;split at h
 .rcases List.mem_append.1 h with h|h
  .exact .inl h
  .exact .inr (by simpa using h)
 .split at h
  .rcases List.mem_or_eq_of_mem_set h with h|h
   .exact .inl h
   .exact .inr h
  .rw[List.append_assoc,List.mem_append,List.mem_append] at h
   rcases h with h|h|h
   .exact .inl (List.mem_of_mem_take h)
   .exact .inr (by simpa using h)
   .exact .inl (List.mem_of_mem_drop h)
theorem Jf{l:List (ByteArray×V3)}(h:kM Prod.fst l)(name:bY)(v:V3):kM Prod.fst (nT l name v):=by
 unfold nT;dsimp only;split
 .rename_i d;have hle:l.findIdx (fun f=>gW name f.1)<=l.length:=List.findIdx_le_length;have e:l.length<=l.findIdx (fun f=>gW name f.1):=List.getElem?_eq_none_iff.1 d;have:=AM h (name,v) l.length (by show l.findIdx (fun c=>gW name c.1)=_;omega) (fun c a=>by rw[List.getElem?_eq_none (lR _)] at a;cases a);rwa [List.take_length,List.drop_length,List.append_nil] at this
 .rename_i f b;split
  .rename_i he;exact KT h (fun c a=>by rw[b] at a;injection a with a;rw[<-a];exact he.symm)
  .rename_i he;exact AM h (name,v) _ rfl (fun c a=>by
    have:l[l.findIdx (fun f=>gW name f.1)]? =some c:=a;rw[b] at this;injection this with this;rw[<-this];exact he)
theorem YM{l:List (ByteArray×V3)}(h:kM Prod.fst l){f:ByteArray×V3}(b:f∈l):l[l.findIdx (fun g=>gW f.1 g.1)]? =some f:=by
 obtain⟨k,a,rfl⟩:=List.getElem_of_mem b;have:=Dr (key:=Prod.fst) h a;rw[this];exact gE a
theorem Pr{l:List (ByteArray×V3)}(h:kM Prod.fst l)(name:bY)(v:V3)(a:l.length<=16)(c:16<=l.length->∃f∈l,f.1=name):(nT l name v).length<=16:=by
 by_cases h16:16<=l.length
 .obtain⟨f,b,rfl⟩:=c h16;have e:=YM h b;unfold nT;dsimp only;rw[e];dsimp only;rw[iP rfl,List.length_set];exact a
 .unfold nT;dsimp only;split
  .rw[aL,List.length_singleton];omega
  .split
   .rw[List.length_set];exact a
   .rw[aL,aL,List.length_singleton,List.length_take,List.length_drop];omega
theorem Dv{c:cI}{name:bY}(h:gL c name≠bF):∃f∈c.aC9,f.1=name:=by
 unfold gL at h
 cases a:c.aC9.find? (fun f=>decide (f.1=name)) with
 |none=>rw[a] at h;exact absurd rfl h
 |some f=>exact⟨f,List.mem_of_find?_eq_some a,by simpa using List.find?_some a⟩
theorem RM{o:Op}(h:gF o=true)(a:o.aC3=3):o.val≠bF:=by
 unfold gF at h;split at h
 .cases h
 split at h
 .cases h
 unfold fY at h;dsimp only at h;rw[iN qo,iN qo,iP a] at h;simp only[Bool.and_eq_true,decide_eq_true_eq] at h;exact h.1.2
theorem wL{o:Op}(h:gF o=true)(a:o.aC3=8):0<o.aDq/\o.aDq<=1099511627776:=by
 unfold gF at h;split at h
 .cases h
 split at h
 .cases h
 unfold fY at h;dsimp only at h;rw[iN qo,iN qo,iN qo,iN qo,iN qo,iN qo,iP a] at h;simp only[Bool.and_eq_true,decide_eq_true_eq] at h;exact h.1
theorem AP{s:Sto}{o:Op}(h:iJ s o=0):∃c,eV s o.aDa=some c/\¬(o.aC3=3/\16<=c.aC9.length/\gL c o.aDn=bF)/\¬(o.aC3≠2/\256<=c.log.length)/\¬((o.aC3=3/\c.aDo=oE)\/(o.aC3=4/\gZ c.aDo o.to_=false)):=by
 unfold iJ at h
 cases a:eV s o.aDa with
 |none=>rw[a] at h;exact absurd (show (10:Int)=0 from h) qe
 |some c=>
  rw[a] at h;dsimp only at h;refine⟨c,rfl,?_⟩;split at h
  .cases h
  rename_i h1;split at h
  .cases h
  rename_i h2;split at h
  .cases h
  rename_i h3;exact⟨h1,h2,h3⟩
theorem AQ{s:Sto}{o:Op}(h:eE s o=0):gF o=true/\(o.aC3=1->(aY s o.aDa).2=false/\s.aC2.length<64)/\(o.aC3=2\/o.aC3=3\/o.aC3=4->iJ s o=0)/\(o.aC3=5->iU s o=0)/\(o.aC3=6->¬(64<=s.aDd.length/\rT s o.aDa o.aDn=false))/\(o.aC3=8->s.aDb<=1099511627776 - o.aDq):=by
 have b:=lJ h;unfold eE at h;rw[b,iN qe] at h;refine⟨b,fun a=> ?_,fun a=> ?_,fun a=> ?_,fun a=> ?_,fun a=> ?_⟩
 .rw[iP a] at h;split at h
  .cases h
  rename_i h1;split at h
  .cases h
  exact⟨by simpa using h1,qo⟩
 .rw[iN qo,iP a] at h;exact h
 .rw[iN qo,iN qo,iP a] at h;exact h
 .rw[iN qo,iN qo,iN qo,iP a] at h;split at h
  .cases h
  rename_i h1;exact h1
 .rw[iN qo,iN qo,iN qo,iN qo,iP a] at h;split at h
  .cases h
  omega
theorem NG{s:Sto}{c:cI}(h:lY s.aDb c)(e:0<=s.aDb)(a b:bY):lY s.aDb (oG s c a b):=PD h e (L:=[⟨s.aDb,a,b⟩]) (a:=a) (fun x d=>by rw[List.mem_singleton] at d;rw[d];exact⟨rfl,rfl⟩)
theorem KU{s:Sto}{i:Nat}{f:cI->cI}{d:cI}(h:d∈(fH s i f).aC2):d∈s.aC2\/∃c,s.aC2[i]? =some c/\d=f c:=by
 unfold fH at h;dsimp only at h;split at h
 .rename_i c a
  rcases List.mem_or_eq_of_mem_set h with h|h
  .exact .inl h
  .exact .inr ⟨c,a,h⟩
 .exact .inl h
theorem YN{s:Sto}{i:Nat}{f:cI->cI}(h:kM cI.id s.aC2)(e:∀c,s.aC2[i]? =some c->(f c).id=c.id):kM cI.id (fH s i f).aC2:=by
 unfold fH;dsimp only;split
 .rename_i c b;exact KT h (fun d a=>by rw[b] at a;injection a with a;rw[<-a];exact e c b)
 .exact h
theorem AR(s:Sto)(i:Nat)(f:cI->cI):(fH s i f).aC2.length=s.aC2.length:=by
 unfold fH;dsimp only;split
 .exact List.length_set
 .rfl
def lZ(s t:Sto):Prop:=s.aC2.length<=t.aC2.length/\∀c∈s.aC2,∃d∈t.aC2,iH c d
theorem lZ.refl(s:Sto):lZ s s:=⟨lR _,fun c a=>⟨c,a,iH.refl c⟩⟩
theorem Ps{s:Sto}{i:Nat}{f:cI->cI}(g:∀c,s.aC2[i]? =some c->iH c (f c)):lZ s (fH s i f):=by
 refine⟨by rw[AR];exact lR _,fun c d=> ?_⟩;obtain⟨k,b,rfl⟩:=List.getElem_of_mem d;unfold fH;dsimp only;split
 .rename_i c a;by_cases e:i=k
  .subst e;rw[gE b] at a;injection a with a;subst a;exact⟨_,List.mem_set b _,g _ (gE b)⟩
  .exact⟨s.aC2[k],List.mem_iff_getElem.2 ⟨k,by rw[List.length_set];exact b,by rw[List.getElem_set_ne e]⟩,iH.refl _⟩
 .exact⟨_,d,iH.refl _⟩
theorem VC{s:Sto}{id:bY}{c d:cI}(h:eV s id=some c)(a:s.aC2[(aY s id).1]? =some d):d=c:=by
 obtain⟨k,f,b,e,_⟩:=Am h;rw[b] at a;dsimp only at a;rw[gE f,e] at a;injection a with a;exact a.symm
theorem VD{s:Sto}(o:Op)(h:uC s):uC (cX s o)/\lZ s (cX s o):=by
 unfold cX;by_cases h0:eE s o=0
 case neg=>rw[iP h0];exact⟨h,lZ.refl s⟩
 rw[iN (fun j=>j h0)];obtain⟨d,B,p,G,C,D⟩:=AQ h0;dsimp only;by_cases h1:o.aC3=1
 .rw[iP h1];obtain⟨h2,h3⟩:=B h1;obtain⟨n,w⟩:=Pp h2;have E:lY s.aDb (oG s ⟨o.aDa,o.aDi,zT,[],[]⟩ o.aDi (str "new")):=
   NG (c:=⟨o.aDa,o.aDi,zT,[],[]⟩) ⟨qs,List.Pairwise.nil,(fun f d=>by cases d),(fun x b=>by cases b),List.Pairwise.nil⟩ h.aDb.1 _ _
  have hle:(aY s o.aDa).1<=s.aC2.length:=by rw[n];exact List.findIdx_le_length
  refine⟨⟨h.aDb,h.aDg,?_,h.aDd,?_,?_,h.aDI⟩,?_,?_⟩
  .exact QDi
  .exact AM (key:=cI.id) h.aDH _ _ n.symm w
  .intro c a;simp only[List.append_assoc,List.mem_append,List.mem_singleton] at a
   rcases a with a|rfl|a
   .exact h.each c (List.mem_of_mem_take a)
   .exact E
   .exact h.each c (List.mem_of_mem_drop a)
  .exact QDi
  .intro c a;refine⟨c,?_,iH.refl c⟩;simp only[List.append_assoc,List.mem_append,List.mem_singleton];have:c∈s.aC2.take (aY s o.aDa).1++s.aC2.drop (aY s o.aDa).1:=by rw[List.take_append_drop];exact a
   rcases List.mem_append.1 this with h|h
   .exact .inl h
   .exact .inr (.inr h)
 rw[iN h1];have q:∀f:cI->cI,(∀c,s.aC2[(aY s o.aDa).1]? =some c->lY s.aDb c->lY s.aDb (f c)/\iH c (f c))->uC (fH s (aY s o.aDa).1 f)/\lZ s (fH s (aY s o.aDa).1 f):=by
  intro f z;have hm:∀c,s.aC2[(aY s o.aDa).1]? =some c->lY s.aDb (f c)/\iH c (f c):=fun c a=>z c a (h.each c (List.mem_of_getElem? a))
  refine⟨⟨h.aDb,h.aDg,by rw[AR];exact h.few,h.aDd,YN h.aDH (fun c a=>(hm c a).2.id),fun c a=> ?_,h.aDI⟩,Ps (fun c a=>(hm c a).2)⟩
  rcases KU a with a|⟨v,y,rfl⟩
  .exact h.each c a
  .exact(hm v y).1
 by_cases h3:o.aC3=3
 .rw[iP h3];obtain⟨c0,g,t,F,m⟩:=AP (p (.inr (.inl h3)));refine q _ fun c a hm=> ?_
  obtain rfl:=VC g a;rw[xL];have k:lY s.aDb {c with aC9:=nT c.aC9 o.aDn o.val}:=by
   refine⟨Pr hm.aDH _ _ hm.aC9 (fun h16=>Dv (fun e=>t ⟨h3,h16,e⟩)),Jf hm.aDH _ _,fun f i=> ?_,hm.aDX,hm.order⟩
   rcases Pq i with i|rfl
   .exact hm.aEa f i
   .exact RM d h3
  exact⟨NG k h.aDb.1 _ _,⟨rfl,rfl,.inl rfl,List.prefix_append _ _,fun a=>absurd (.inl ⟨h3,a⟩) m⟩⟩
 rw[iN h3];by_cases h4:o.aC3=4
 .rw[iP h4];obtain⟨c0,g,t,F,m⟩:=AP (p (.inr (.inr h4)));refine q _ fun c a hm=> ?_
  obtain rfl:=VC g a;have k:lY s.aDb {c with aDo:=o.to_}:=⟨hm.aC9,hm.aDH,hm.aEa,hm.aDX,hm.order⟩;refine⟨NG k h.aDb.1 _ _,⟨rfl,rfl,.inr ?_,List.prefix_append _ _,fun _=>rfl⟩⟩;show gZ c.aDo o.to_=true
  cases A:gZ c.aDo o.to_
  .exact absurd (.inr ⟨h4,A⟩) m
  .rfl
 rw[iN h4];by_cases h5:o.aC3=5
 .rw[iP h5];refine⟨⟨h.aDb,h.aDg,h.few,h.aDd,h.aDH,h.each,?_⟩,lR _,fun c a=>⟨c,a,iH.refl c⟩⟩;dsimp only;split
  .rename_i r l;intro x b
   rcases List.mem_or_eq_of_mem_set b with b|rfl
   .exact h.aDI x b
   .exact h.aDI r (List.mem_of_getElem? l)
  .exact h.aDI
 rw[iN h5];by_cases h6:o.aC3=6
 .rw[iP h6];split
  .exact⟨h,lZ.refl s⟩
  .rename_i j;have:=C h6;refine⟨⟨h.aDb,h.aDg,h.few,?_,h.aDH,h.each,h.aDI⟩,lR _,fun c a=>⟨c,a,iH.refl c⟩⟩;simp only[aL,List.length_singleton];have h7:rT s o.aDa o.aDn=false:=by simpa using j
   have h8:¬64<=s.aDd.length:=fun h=>this ⟨h,h7⟩
   omega
 rw[iN h6];by_cases h7:o.aC3=7
 .rw[iP h7];split
  .exact⟨⟨h.aDb,by have:=h.aDg;show 0<=s.aDg+1;omega,h.few,h.aDd,h.aDH,h.each,h.aDI⟩,lR _,fun c a=>⟨c,a,iH.refl c⟩⟩
  .exact⟨h,lZ.refl s⟩
 rw[iN h7];by_cases h8:o.aC3=8
 .rw[iP h8];have h9:=D h8;have h10:=wL d h8;have h11:=h.aDb;refine⟨⟨⟨by show 0<=s.aDb+o.aDq;omega,by show s.aDb+o.aDq<=_;omega⟩,h.aDg,h.few,h.aDd,h.aDH,fun c a=>(h.each c a).more (by show s.aDb<=s.aDb+o.aDq;omega),fun r l=> ?_⟩,lR _,fun c a=>⟨c,a,iH.refl c⟩⟩;have:=h.aDI r l;exact⟨this.1,by show r.aDb<=s.aDb+o.aDq;omega⟩
 rw[iN h8];exact⟨h,lZ.refl s⟩
theorem Dw{s t u:Sto}{k:Int}{a:bY}(h:lZ s t)(f:jS k a t.aC2 u.aC2):lZ s u:=by
 refine⟨by rw[f.1];exact h.1,fun c g=> ?_⟩;obtain⟨d,j,b⟩:=h.2 c g;obtain⟨i,l,rfl⟩:=List.getElem_of_mem j;obtain⟨L,e,_⟩:=f.2 i _ (gE l);exact⟨_,List.mem_of_getElem? e,⟨b.id,b.aDv,b.aDo,b.log.trans (List.prefix_append _ _),b.shut⟩⟩
theorem YO(g:Bool)(s:Sto)(o:Op)(r:bY):lZ s (if g=true then eJ s o r else s):=by
 split
 .exact⟨lR _,fun c a=>⟨c,a,iH.refl c⟩⟩
 .exact lZ.refl s
theorem Dx{s t u:Sto}(h:t.aC2=s.aC2)(k:lZ t u):lZ s u:=by
 refine⟨by rw[<-h];exact k.1,fun c a=>k.2 c (by rw[h];exact a)⟩
theorem Jg(s:Sto)(o:Op)(h:AN s):AN (cQ s o).1/\lZ s (cQ s o).1:=by
 have hw:=lX s o
 rcases a:cQ s o with ⟨t,r,d,e⟩
 rw[a] at hw
 cases hw with
 |none _ _ he j _=>exact⟨h,lZ.refl s⟩
 |some m l glass hidden v k i g c b f n=>
  dsimp only;have hm:=Je h.1 glass o o.aDp;refine⟨⟨?_,b⟩,?_⟩
  .refine Du ?_ o _ l;split
   .exact(VD o hm).1
   .exact hm
  .refine Dw ?_ (uP o _ l _);split
   .exact Dx (tB glass s o o.aDp) (VD o hm).2
   .exact YO glass s o o.aDp
theorem Yq:AN mT:=⟨⟨⟨qe,qe⟩,qe,qe,qe,List.Pairwise.nil,(fun c a=>by cases a),(fun r b=>by cases b)⟩,rfl⟩
theorem bE.aEm{K:nP}{base:Nat}{w:World}{s:Sto}{L:List Mix}{ro:Option Value}{c:oD}{n f:Nat}{vr vn vo vt vu vk vb:Value}(h:bE K base w s L ro (.slice c n f) vr vn vo vt vu vk vb){k:Nat}(a:k<L.length)(o:L[k].2.1.isSome=true):
 ∃g la lc,c=some ⟨g,0,none⟩/\L[k].2.1=some (.slice la L[k].1.aC9.length lc)/\w.cell? ⟨g,k * 5+3,none⟩=some (.slice la L[k].1.aC9.length lc)/\base<=g/\g<w.heap.size/\aN lG 4 193 w base (fun _=>False) (.slice la L[k].1.aC9.length lc) L[k].1.aC9/\some g≠(Value.slice la L[k].1.aC9.length lc).ownBlock/\(∀i,w.frozen? ⟨g,i,none⟩=false)/\¬K g:=by
 obtain⟨g,r,e,h1,h2,hm,j,l⟩:=h.aC2.at (dQ base K) a qe;obtain⟨z,A,rfl,p,q,t,d,p5⟩:=hm;obtain⟨v,b⟩:=Option.isSome_iff_exists.1 o;have m:=(kH h.aC2 a).1 v b;rw[b] at d;obtain⟨rfl,q1,x,y⟩:=d;obtain⟨la,lc,rfl⟩:=q1.slice;subst e;exact⟨g,la,lc,rfl,b,j 3 _ rfl,h1,h2,q1,fun e=>m.2.1 g e.symm rfl,l,fun a=>(h.kept g a).2.1 rfl⟩
theorem DS{K:nP}{base:Nat}{w d c:World}{s:Sto}{L:List Mix}{ro:Option Value}{g n l:Nat}{vr vn vo vt vu vk vb:Value}{k:Nat}(a:bE K base d s L ro (.slice (some ⟨g,0,none⟩) n l) vr vn vo vt vu vk vb)(i:k<L.length)(t:Below w.heap.size w d){v v':Value}(j:L[k].2.1=some v){l':List pS}(q:l'.length<=1000000)(m:d.grownBy c v.ownBlock)(o:aN lG 4 193 c base (fun _=>False) v' l')(p:v'.ownBlock=v.ownBlock\/v'.ownBlock=some d.heap.size):
 Hid (bE K base (c.setCell ⟨g,k * 5+3,none⟩ v') {s with aC2:=s.aC2.set k {L[k].1 with aC9:=l'}} (L.set k ({L[k].1 with aC9:=l'},some v',L[k].2.2)) ro (.slice (some ⟨g,0,none⟩) n l) vr vn vo vt vu vk vb)/\Hid (aO (fun b=>b<base\/K b) w (c.setCell ⟨g,k * 5+3,none⟩ v')):=by
 have r:=(kH a.aC2 i).1 v j;have x:=a.aC2.lt g rfl;exact⟨a.aC9 i j m o (yR p (lR _)) q,((aK t).trans ((dC m).mono (fun b _ f e=>f.elim (fun h=>qA ((r.1.lt b e.symm).1)) (fun h=>(a.aDx k i).1 b (cP.2 ⟨v,j,e.symm⟩) h)))).trans ((aJ _).mono (fun b _ f e=>f.elim (fun h=>by omega) (fun h=>(a.kept b h).2.1 (by rw[e];rfl))))⟩
theorem Vp{w:World}{base:Nat}{ok:nP}{e:TypeId}{g n c k:Nat}{l:List pS}(h:aN lG 4 e w base ok (.slice (some ⟨g,0,none⟩) n c) l)(b:k<l.length){N:bY}{v:V3}(m:l[k].1=N)(d:cZ v):
 aN lG 4 e (((w.setCell ⟨g,k * 4+1,none⟩ (.int .i64 v.1)).setCell ⟨g,k * 4+2,none⟩ (.int .i64 v.2.1)).setCell ⟨g,k * 4+3,none⟩ (.string v.2.2)) base ok (.slice (some ⟨g,0,none⟩) n c) (l.set k (N,v)):=by
 have h1:=aN.setAt bU (j:=1) (x:= .int .i64 v.1) (y:=(l[k].1,(v.1,l[k].2.2))) h b qe (by rintro r ⟨rfl,a⟩;exact⟨rfl,a.1,d.1,a.2.2⟩);have f:(l.set k (l[k].1,(v.1,l[k].2.2)))[k]'(by rw[List.length_set];exact b)=(l[k].1,(v.1,l[k].2.2)):=List.getElem_set_self _;have h2:=aN.setAt bU (j:=2) (x:= .int .i64 v.2.1) (y:=(l[k].1,(v.1,v.2.1,l[k].2.2.2))) h1 (by rw[List.length_set];exact b) qe (by rw[f];rintro r ⟨rfl,a⟩;exact⟨rfl,a.1,d.1,d.2.1,a.2.2.2⟩);rw[List.set_set] at h2;have i:(l.set k (l[k].1,(v.1,v.2.1,l[k].2.2.2)))[k]'(by rw[List.length_set];exact b)=(l[k].1,(v.1,v.2.1,l[k].2.2.2)):=List.getElem_set_self _;have h3:=aN.setAt bU (j:=3) (x:= .string v.2.2) (y:=(l[k].1,v)) h2 (by rw[List.length_set];exact b) qe (by rw[i];rintro r ⟨rfl,a⟩;exact⟨rfl,a.1,d⟩);rw[List.set_set,m] at h3;exact h3
theorem VE{w w':World}{base i:Nat}{v:Value}{l:List pS}{xs:List Value}{x:pS}(g:ES x)(d:i<=l.length)(h:w.ownsRow base 193 4 v l.length xs/\aZ (lG w (fun b=>False/\b<w.heap.size/\some b≠v.ownBlock)) xs l){A:oD}{a:Nat}(c:w'.ownsRow base 193 4 (.slice A (l.length+1) a) (l.length+1) (xs.take (i * 4)++tX x++xs.drop (i * 4))):
 aN lG 4 193 w' base (fun _=>False) (.slice A (l.length+1) a) (l.take i++[x]++l.drop i):=by
 have e:(l.take i++[x]++l.drop i).length=l.length+1:=by simp only[aL,List.length_take,List.length_drop,List.length_cons,List.length_nil];omega
 refine⟨_,by rw[e];exact c,?_⟩;have h2:aZ (lG w' (fun b=>False/\b<w'.heap.size/\some b≠(Value.slice A (l.length+1) a).ownBlock)) xs l:=h.2;have h3:=h2.split (fun r x f=>bU.len f) i d;exact(h3.1.append (aZ.one ⟨rfl,g⟩)).append h3.2
theorem Vq{l:List (ByteArray×V3)}{N:bY}{v:V3}(h:¬l.findIdx (fun f=>gW N f.1)<l.length):nT l N v=l++[(N,v)]:=by
 unfold nT;dsimp only;rw[List.getElem?_eq_none qo]
theorem Yr{l:List (ByteArray×V3)}{N:bY}{v:V3}{f:Nat}(a:f=l.findIdx (fun f=>gW N f.1))(h:f<l.length):nT l N v=if l[f].1=N then l.set f (N,v) else l.take f++[(N,v)]++l.drop f:=by
 unfold nT;dsimp only;rw[<-a,gE h]
def Jh(K:nP)(base:Nat)(s:Sto)(L:List Mix)(ro:Option Value)(vc vr vn vo vt vu vk vb:Value)(k:Nat)(c:cI)(o:Option Value)(w:World)(e:Ending)(w':World):Prop:=e=.returned (.tuple #[])/\∃u,bE K base w' {s with aC2:=s.aC2.set k c} (L.set k (c,some u,o)) ro vc vr vn vo vt vu vk vb/\aO (fun b=>b<base\/K b) w w'
theorem Ji{K:nP}{base:Nat}(s:Sto)(L:List Mix)(ro:Option Value)(ca:oD)(n cc:Nat)(vr vn vo vt vu vk vb:Value)(k:Nat)(w:World)(hO:bE K base w s L ro (.slice ca n cc) vr vn vo vt vu vk vb)(C:k<L.length)(hs:L[k].2.1.isSome=true)(N:bY)(hN:N.size<=cV)(v:V3)(hv:cZ v)(hl:L[k].1.aC9.length<=900000)(g:Nat)(b2:ca=some ⟨g,0,none⟩):
 Calls prog 103 #[.pointer (some ⟨g,k * 5,none⟩),.string N,dH v] w (Jh K base s L ro (.slice ca n cc) vr vn vo vt vu vk vb k (nY L[k].1 N v) L[k].2.2 w):=by
 obtain⟨g',fa,fc,X,bm,H,b9,b4,q,bn,Y,b8⟩:=hO.aEm C hs;subst b2;injection X with X;injection X with X _ _;subst X;obtain⟨t,au⟩:∃O:Obj,O=.cells #[.string N] 9:=⟨_,rfl⟩;obtain⟨z,av⟩:∃O:Obj,O=.cells #[.int .i64 v.1,.int .i64 v.2.1,.string v.2.2] 64:=⟨_,rfl⟩;obtain⟨W0,S⟩:=xE ((w.alloc t).alloc z);have ag:Below w.heap.size w W0:=by rw[S];exact aC (aB _ _) (aB _ _)
 have h1:W0.heap[w.heap.size]? =some t:=by rw[S];exact aF (aM _ _ _ rfl) (aB _ _)
 have h2:W0.heap[w.heap.size+1]? =some z:=by rw[S];exact aM _ _ _ qs
 obtain⟨A,ah⟩:∃A,w.heap[g]? =some A:=⟨_,Array.getElem?_eq_getElem b4⟩;have D:Hid (∀(w':World),(w'.heap[g]? =some A/\w'.heap[w.heap.size]? =some t/\w'.heap[w.heap.size+1]? =some z)->w'.cell? ⟨g,k * 5+3,none⟩=some (.slice fa L[k].1.aC9.length fc)/\w'.frozen? ⟨g,k * 5+3,none⟩=false/\g<w'.heap.size/\w'.cell? ⟨w.heap.size,0,none⟩=some (.string N)/\w.heap.size<w'.heap.size/\w'.cell? ⟨w.heap.size+1,0,none⟩=some (.int .i64 v.1)/\w'.cell? ⟨w.heap.size+1,1,none⟩=some (.int .i64 v.2.1)/\w'.cell? ⟨w.heap.size+1,2,none⟩=some (.string v.2.2)/\w.heap.size+1<w'.heap.size):=aA (fun w' C=>by
  have h2:=C.2.1;have h3:=C.2.2;rw[au] at h2;rw[av] at h3;exact⟨(World.cell?_of_block (a:=⟨g,k * 5+3,none⟩) (C.1.trans ah.symm)).trans H,(World.frozen?_of_block (a:=⟨g,k * 5+3,none⟩) (C.1.trans ah.symm)).trans (Y _),aE C.1,aR h2 0 _ rfl,aE h2,aR h3 0 _ rfl,aR h3 1 _ rfl,aR h3 2 _ rfl,aE h3⟩)
 have I:Hid (W0.heap[g]? =some A/\W0.heap[w.heap.size]? =some t/\W0.heap[w.heap.size+1]? =some z):=aA ⟨aF ah ag,h1,h2⟩;obtain⟨f,hf⟩:=xE (L[k].1.aC9.findIdx (fun x=>gW N x.1));have T:=aA (TT _ L[k].1.aC9 N w.heap.size W0 ((q.on bU ag).aD0 bU qo) ⟨(D.o _ I.o).2.2.2.1,aE h1⟩);have bd:Hid (eW (fun x=>gW N x.1) L[k].1.aC9=if f<L[k].1.aC9.length then (f:Int) else -1):=aA (by unfold eW;rw[<-hf]);obtain⟨ad,al,bc,aa,ba,az,bf,aq⟩:=SF hO q bn bm hf ag hN hv;have ab:Hid (some w.heap.size≠(Value.slice fa L[k].1.aC9.length fc).ownBlock/\some (w.heap.size+1)≠(Value.slice fa L[k].1.aC9.length fc).ownBlock):=aA ⟨fun e=>qA ((q.lt _ e.symm).2),fun e=>qA ((q.lt _ e.symm).2)⟩;unfold aP at T;rw[xL];unfold dH;rw[au,av] at S;have bh:=aA S;have bl:=hO.size;generalize eW (fun x=>gW N x.1) L[k].1.aC9=ix at *;generalize hx:L[k].1=x at *;have ae:=aA hx;clear hf S ag h1 h2 ah hO au av H Y q bn bm hN hv hx;obtain⟨c0,c1,j,l,m,v0,v1,v2,o⟩:=D.o _ I.o;by_cases R:f<x.aC9.length
 .have h1:ix=(f:Int):=by rw[bd.o,iP R]
  subst h1;have i0:¬((f:Int)<0):=qo;have i1:(f:Int)<(x.aC9.length:Int):=qo;go_enter func103,ntmps103;go_upto_region 1 with (fail)
  rw[<-bh.o];go_wp2_with fail;refine T.o.mono ?_;rintro e w1 ⟨rfl,G⟩;have F:=qB az G;have i:Hid (w1.heap[g]? =some A/\w1.heap[w.heap.size]? =some t/\w1.heap[w.heap.size+1]? =some z):=aA ⟨aF I.o.1 G,aF I.o.2.1 G,aF I.o.2.2 G⟩;clear c0 c1 j l m v0 v1 v2 o G T;obtain⟨c0,c1,j,l,m,v0,v1,v2,o⟩:=D.o _ i.o;obtain⟨p,r,b3,cb,b6,⟨rfl,b5⟩,H,Y⟩:=(al.o.on bU F.o).at bU R qe;subst b3;obtain⟨y,hy⟩:=xE (x.aC9[f]);rw[<-hy] at H b5;obtain⟨V,aw⟩:∃V,w1.heap[p]? =some V:=⟨_,Array.getElem?_eq_getElem b6⟩;have a6:Hid (∀(w':World),(w'.heap[g]? =some A/\w'.heap[w.heap.size]? =some t/\w'.heap[w.heap.size+1]? =some z/\w'.heap[p]? =some V)->w'.cell? ⟨p,f * 4,none⟩=some (.string y.1)/\p<w'.heap.size):=aA (fun w' C=>by
   have h0:=H 0 _ rfl;rw[Nat.add_zero] at h0;exact⟨(World.cell?_of_block (a:=⟨p,f * 4,none⟩) (C.2.2.2.trans aw.symm)).trans h0,aE C.2.2.2⟩)
  have bz:=aA hy;have bx:Hid (w1.cell? ⟨p,f * 4+1,none⟩=some (.int .i64 y.2.1)/\w1.cell? ⟨p,f * 4+1+1,none⟩=some (.int .i64 y.2.2.1)/\w1.cell? ⟨p,f * 4+1+2,none⟩=some (.string y.2.2.2)):=aA ⟨H 1 _ rfl,H 2 _ rfl,H 3 _ rfl⟩;have ak:=aA Y;have a8:Hid (w1.heap[g]? =some A/\w1.heap[w.heap.size]? =some t/\w1.heap[w.heap.size+1]? =some z/\w1.heap[p]? =some V):=aA ⟨i.o.1,i.o.2.1,i.o.2.2,aw⟩;have bg:Hid (nT x.aC9 N v=if y.1=N then x.aC9.set f (N,v) else x.aC9.take f++[(N,v)]++x.aC9.drop f):=aA (by rw[hy];exact Yr ba.o R);clear hy H Y aw;obtain⟨y0,yz⟩:=a6.o _ a8.o;go_upto_region 5 with (fail)
  refine cB 10 [(0,false),(1,false),(2,false),(3,false),(4,false),(5,false),(6,false),(7,false),(8,false),(9,false)] [(10,true)] (fun w'=>w'.heap[g]? =some A/\w'.heap[w.heap.size]? =some t/\w'.heap[w.heap.size+1]? =some z/\w'.heap[p]? =some V) (by kernel_rfl) (by kernel_rfl) a8.o ?_;simp only[List.cons_append,List.nil_append]
  repeat (refine dA rfl (fun K c=> ?_);unfold rd;go_simp;refine c _ (fun Z h1=> ?_) ?_;(· clear c K c0 c1 j l m v0 v1 v2 o y0 yz;obtain⟨c0,c1,j,l,m,v0,v1,v2,o⟩:=D.o _ ⟨h1.1,h1.2.1,h1.2.2.1⟩;obtain⟨y0,yz⟩:=a6.o _ h1;unfold rd;go_simp);clear c K)
  refine bI rfl (fun B d=> ?_);unfold mv;go_simp;refine d _ _ (fun h=>absurd h qe) ?_;clear d B;unfold cH;have bb:=aA (al.o.on bU F.o);have a7:Hid ((y.1.toList==N.toList)=decide (y.1=N)):=aA (by rw[Bool.eq_iff_iff,bQ,decide_eq_true_eq];exact⟨FE,fun h=>by rw[h]⟩);generalize (y.1.toList==N.toList)=E at *
  cases E
  rotate_left
  .have af:Hid (y.1=N):=aA (of_decide_eq_true a7.o.symm);clear y0;go_upto_region 6 with (fail)
   have HZ:Hid (w1.drew.heap[g]? =some A/\w1.drew.heap[w.heap.size]? =some t/\w1.drew.heap[w.heap.size+1]? =some z):=aA i.o;refine cB 8 [(0,false),(1,false),(2,false),(3,false),(4,false),(5,false),(6,false),(7,false)] [(8,true)] (fun w'=>w'.heap[g]? =some A/\w'.heap[w.heap.size]? =some t/\w'.heap[w.heap.size+1]? =some z) (by kernel_rfl) (by kernel_rfl) i.o ?_;simp only[List.cons_append,List.nil_append]
   repeat (refine dA rfl (fun K c=> ?_);unfold rd;go_simp;refine c _ (fun Z h1=> ?_) ?_;(· clear c K c0 c1 j l m v0 v1 v2 o;obtain⟨c0,c1,j,l,m,v0,v1,v2,o⟩:=D.o _ h1;unfold rd;go_simp);clear c K)
   have z1:=ak.o (f * 4+1);have z2:=ak.o (f * 4+1+1);have z3:=ak.o (f * 4+1+2);obtain⟨y1,y2,y3⟩:=bx.o;refine bI rfl (fun B d=> ?_);unfold mv;go_simp;refine d _ _ (fun h=>absurd h qe) ?_;clear d B;unfold cH;go_wp2;go_returns;have b7:x.aC9[f].1=N:=bz.o▸af.o;have J:=Vp bb.o R b7 aq.o;have br:aO (fun b=>b≠p) w1 (((w1.setCell ⟨p,f * 4+1,none⟩ (.int .i64 v.1)).setCell ⟨p,f * 4+2,none⟩ (.int .i64 v.2.1)).setCell ⟨p,f * 4+3,none⟩ (.string v.2.2)):=((aJ _).trans (aJ _)).trans (aJ _);have b1:=(ad.o.on F.o).aDn C aa.o (br.mono (fun b _ hb e=>hb (by rw[e];rfl))) J (by rw[List.length_set,ae.o]);have b0:¬K p:=(ad.o.aDx k C).1 p (cP.2 ⟨_,aa.o,rfl⟩);have W:({x with aC9:=nT x.aC9 N v}:cI)={L[k].1 with aC9:=x.aC9.set f (N,v)}:=by rw[bg.o,iP af.o,<-ae.o]
   rw[W];exact⟨rfl,_,b1.on (Below.refl _ _).drew.drew,((aK F.o).trans (br.mono (fun b _ hb e=>hb.elim (fun h=>by omega) (fun h=>b0 (e▸h))))).trans (aK (Below.refl _ _).drew.drew)⟩
  .have af:Hid (¬y.1=N):=aA (of_decide_eq_false a7.o.symm);clear y0;go_upto_region 2 with (fail)
   trace_state
   refine cB 13 [(0,false),(1,false),(2,false),(3,false),(4,false),(5,false),(6,false),(7,false),(8,false),(9,true),(10,true),(11,false),(12,false)] [(13,true)] (fun w'=>w'.heap[g]? =some A/\w'.heap[w.heap.size]? =some t/\w'.heap[w.heap.size+1]? =some z) (by kernel_rfl) (by kernel_rfl) i.o ?_;simp only[List.cons_append,List.nil_append]
   repeat (refine dA rfl (fun K c=> ?_);unfold rd;go_simp;refine c _ (fun Z h1=> ?_) ?_;(· clear c K c0 c1 j l m v0 v1 v2 o;obtain⟨c0,c1,j,l,m,v0,v1,v2,o⟩:=D.o _ h1;unfold rd;go_simp);clear c K)
   refine bI rfl (fun B d=> ?_);unfold mv;go_simp;refine d _ _ (fun _=>⟨aF i.o.1 (aB _ _).drew.drew,aF i.o.2.1 (aB _ _).drew.drew,aF i.o.2.2 (aB _ _).drew.drew⟩) ?_;clear d B c0 c1 j l m v0 v1 v2 o;obtain⟨Q,ai⟩:=xE ((w1.alloc (.cells #[.string N,.int .i64 v.1,.int .i64 v.2.1,.string v.2.2] 193)).drew.drew);have M:Below w1.heap.size w1 Q:=by rw[ai];exact(aB _ _).drew.drew
   have bp:Q.heap[w1.heap.size]? =some (.cells (tX (N,v)).toArray 193 (0,0)):=by rw[ai];exact aM _ _ _ rfl
   have ar:Hid (Q.heap[g]? =some A/\Q.heap[w.heap.size]? =some t/\Q.heap[w.heap.size+1]? =some z):=aA ⟨aF i.o.1 M,aF i.o.2.1 M,aF i.o.2.2 M⟩;obtain⟨xs,ay,ax⟩:=bb.o.on bU M;have bs:=aA (RG Q base (some ⟨p,0,none⟩) x.aC9.length fc f xs (tX (N,v)) w1.heap.size 1 193 ay qo qo (lT bl (aC F.o M).size) bp rfl (by intro u hu;simp only[tX,List.mem_cons,List.not_mem_nil,or_false] at hu;rcases hu with rfl|rfl|rfl|rfl<;>rfl) (aZ.aDA (fun r x hr=>bU.one hr) ax) (fun e=>by have e2:some p=some w1.heap.size:=e;injection e2 with e3;omega));obtain⟨bt,a1,bw⟩:=bA (⟨ay,ax⟩:_/\_) (aC F.o M) ai;rw[<-bw.o];clear ai M bp ay ax;refine bI rfl (fun B d=> ?_);unfold mv;go_simp;refine bs.o.mono ?_;rintro e P ⟨A',c',rfl,bq,q,bj⟩;have J:=VE (x:=(N,v)) ⟨bf.o,aq.o⟩ qo bt.o bq;have U:Hid (P.heap[g]? =some A/\P.heap[w.heap.size]? =some t/\P.heap[w.heap.size+1]? =some z):=aA ⟨gM ar.o.1 (Below.refl _ _) q bc.o,gM ar.o.2.1 (Below.refl _ _) q ab.o.1,gM ar.o.2.2 (Below.refl _ _) q ab.o.2⟩;have aj:(x.aC9.take f++[(N,v)]++x.aC9.drop f).length<=1000000:=by simp only[aL,List.length_take,List.length_drop,List.length_cons,List.length_nil];omega
   obtain⟨an,ao⟩:=DS (ad.o.on a1.o) C a1.o aa.o aj q J bj;refine d _ _ (fun _=>U.o) ?_;clear d B J q bj bq aj;obtain⟨c0,c1,j,l,m,v0,v1,v2,o⟩:=D.o _ U.o
   repeat (refine dA rfl (fun K c=> ?_);unfold rd;go_simp;refine c _ (fun Z h1=> ?_) ?_;(· clear c K c0 c1 j l m v0 v1 v2 o;obtain⟨c0,c1,j,l,m,v0,v1,v2,o⟩:=D.o _ h1;unfold rd;go_simp);clear c K)
   refine bI rfl (fun B d=> ?_);unfold mv;go_simp;refine d _ _ (fun h=>absurd h qe) ?_;clear d B c0 c1 j l m v0 v1 v2 o;unfold cH;go_wp2;go_returns;have W:({x with aC9:=nT x.aC9 N v}:cI)={L[k].1 with aC9:=x.aC9.take f++[(N,v)]++x.aC9.drop f}:=by rw[bg.o,iN af.o,<-ae.o]
   rw[W];exact⟨rfl,_,an.o,ao.o⟩
 .have h1:ix= -1:=by rw[bd.o,iN R]
  subst h1;go_enter func103,ntmps103;go_upto_region 1 with (fail)
  rw[<-bh.o];go_wp2_with fail;refine T.o.mono ?_;rintro e w1 ⟨rfl,G⟩;have F:=qB az G;have i:Hid (w1.heap[g]? =some A/\w1.heap[w.heap.size]? =some t/\w1.heap[w.heap.size+1]? =some z):=aA ⟨aF I.o.1 G,aF I.o.2.1 G,aF I.o.2.2 G⟩;clear c0 c1 j l m v0 v1 v2 o G T;obtain⟨c0,c1,j,l,m,v0,v1,v2,o⟩:=D.o _ i.o;have bu:Hid (nT x.aC9 N v=x.aC9++[(N,v)]):=aA (Vq (by rw[<-ba.o];exact R));go_upto_region 4 with (fail)
  refine cB 12 [(0,false),(1,false),(2,false),(3,false),(4,false),(5,false),(6,false),(7,false),(8,true),(9,true),(10,false),(11,false)] [(12,true)] (fun w'=>w'.heap[g]? =some A/\w'.heap[w.heap.size]? =some t/\w'.heap[w.heap.size+1]? =some z) (by kernel_rfl) (by kernel_rfl) i.o ?_;simp only[List.cons_append,List.nil_append]
  repeat (refine dA rfl (fun K c=> ?_);unfold rd;go_simp;refine c _ (fun Z h1=> ?_) ?_;(· clear c K c0 c1 j l m v0 v1 v2 o;obtain⟨c0,c1,j,l,m,v0,v1,v2,o⟩:=D.o _ h1;unfold rd;go_simp);clear c K)
  refine bI rfl (fun B d=> ?_);unfold mv;go_simp;refine d _ _ (fun _=>⟨aF i.o.1 (aB _ _).drew,aF i.o.2.1 (aB _ _).drew,aF i.o.2.2 (aB _ _).drew⟩) ?_;clear d B;refine bI rfl (fun B d=> ?_);unfold mv;refine iZ (base:=base) xA bU rfl (.tmp 33) (.tmp 37) rfl _ x.aC9 rfl (al.o.on bU (aC F.o (aB _ _).drew)) w1.heap.size 1 _ _ _ (N,v) rfl (aM _ _ _ rfl) ⟨rfl,bf.o,aq.o⟩ qo qe (lT bl (aC F.o (aB _ _).drew).size) ?_;intro l' bo A' c' P J q bk;have U:Hid (P.heap[g]? =some A/\P.heap[w.heap.size]? =some t/\P.heap[w.heap.size+1]? =some z):=aA ⟨gM i.o.1 (aB _ _).drew q bc.o,gM i.o.2.1 (aB _ _).drew q ab.o.1,gM i.o.2.2 (aB _ _).drew q ab.o.2⟩;have be:=aA bo.o;have aj:l'.length<=1000000:=by rw[be.o,aL];simp only[List.length_cons,List.length_nil];omega
  obtain⟨an,ao⟩:=DS (ad.o.on (aC F.o (aB _ _).drew)) C (aC F.o (aB _ _).drew) aa.o aj q J bk;refine d _ _ (fun _=>U.o) ?_;clear d B J q bk bo c0 c1 j l m v0 v1 v2 o;obtain⟨c0,c1,j,l,m,v0,v1,v2,o⟩:=D.o _ U.o
  repeat (refine dA rfl (fun K c=> ?_);unfold rd;go_simp;refine c _ (fun Z h1=> ?_) ?_;(· clear c K c0 c1 j l m v0 v1 v2 o;obtain⟨c0,c1,j,l,m,v0,v1,v2,o⟩:=D.o _ h1;unfold rd;go_simp);clear c K)
  refine bI rfl (fun B d=> ?_);unfold mv;go_simp;refine d _ _ (fun h=>absurd h qe) ?_;clear d B c0 c1 j l m v0 v1 v2 o;unfold cH;go_wp2;go_returns;have W:({x with aC9:=nT x.aC9 N v}:cI)={L[k].1 with aC9:=l'}:=by rw[bu.o,<-be.o,<-ae.o]
  rw[W];exact⟨rfl,_,an.o,ao.o⟩
end Go.Proofs.YtkglnboglppgnaaGreatDoor
