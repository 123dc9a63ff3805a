/- Lemmas. -/
import Derived.Test.YtdfinmcogbkffaaGreatDoorMaw
import Derived.Lib.Overlaps
import Derived.Shelf.Spec.SlicesInsert
namespace Go.Proofs.YtdfinmcogbkffaaGreatDoor
open Go.RowKit
set_option linter.unusedVariables false
set_option linter.unusedSimpArgs false
set_option maxHeartbeats 16000000
open _root_.Go.Proofs.Tryz
set_option maxRecDepth 20000
section
variable {K K':nP} {base:Nat} {w w':World} {s:Sto} {L:List Mix} {ro:Option Value} {vc vr vn vo vt vu vk vb:Value}
theorem bC.aEL(h:bC K base w s L ro vc vr vn vo vt vu vk vb){q:nP}(a:aN q w w')(d:∀b,K b->q b)(f:∀b,vc.ownBlock=some b->q b)(k:∀b,vr.ownBlock=some b->q b)(g:∀b,vn.ownBlock=some b->q b)(i:∀b,bO ro=some b->q b)(e:∀j (hj:j<L.length),(∀b,bO L[j].2.1=some b->q b)/\(∀b,bO L[j].2.2=some b->q b)):bC K base w' s L ro vc vr vn vo vt vu vk vb:={
 aDI:=h.aDI
 aDL:=h.aDL
 all:=h.all
 aD0:=h.aD0
 apart:=h.apart
 aDz:=yP h.aDz a f d e
 aDC:=h.aDC.stays cV a k (fun _ h _=>h.elim)
 aDG:=h.aDG.stays eB a g (fun _ h _=>h.elim)
 aDM:=h.aDM.aEc dC a d i (fun _ h _=>h)
 aDA:=h.aDA.aDH (a.mono fun b _ c=>d b c)
 kept:=fun b c=>⟨lL (h.kept b c).1 a.size,(h.kept b c).2⟩
 aD3:=h.aD3
 aEb:=h.aEb
 size:=lT h.size a.size}
theorem bC.aES(h:bC K' base w s L ro vc vr vn vo vt vu vk vb)(p:∀j (hj:j<L.length),L[j].2.1.isSome=true)(x:ro.isSome=true)(hp:fO 3 w K s.aDA vt vu vk vb)(g:∀b,K b->K' b)(l:∀b,K' b->K b\/base<=b):bC K base w s L ro vc vr vn vo vt vu vk vb:=by
 refine {aEb:=h.aEb,aDI:=h.aDI,aDL:=h.aDL,all:=h.all,aD0:=h.aD0,apart:=h.apart,aDz:= ?_,aDC:=h.aDC,aDG:=h.aDG,aDM:= ?_,aDA:=hp,kept:=fun b a=>h.kept b (g b a),aD3:=fun j hj=>⟨fun b a k=>(h.aD3 j hj).1 b a (g b k),fun b a k=>(h.aD3 j hj).2 b a (g b k)⟩,size:=h.size}
 .obtain⟨cs,h1,h2⟩:=h.aDz;refine⟨cs,h1,aW.aEf (fun i m r v=> ?_) h2⟩;obtain⟨B,C,e,y,z,A,o,p5⟩:=v;obtain⟨D,q⟩:=Option.isSome_iff_exists.1 (p i m);obtain⟨ul,t⟩:=Option.isSome_iff_exists.1 (h.aD0 i m);have n:∀b,(K' b\/base<=b)/\b<w.heap.size/\some b≠vc.ownBlock->(K b\/base<=b)/\b<w.heap.size/\some b≠vc.ownBlock:=fun b a=>⟨a.1.elim (l b) .inr,a.2⟩
  refine⟨B,C,e,y,z,A,?_,?_⟩
  .rw[q] at o ⊢;obtain⟨q1,c,d,f⟩:=o;exact⟨q1,c,fun b a=>n b (d b a),f⟩
  .rw[t] at p5 ⊢;obtain⟨q1,c,d,f⟩:=p5;exact⟨q1,c,fun b a=>n b (d b a),f⟩
 .have h1:=h.aDM;obtain⟨u,hu⟩:=Option.isSome_iff_exists.1 x;subst hu;obtain⟨q1,c,d,f⟩:=h1;exact⟨q1,c,fun b a=>(d b a).elim (l b) .inr,f⟩
theorem bC.aEq(h:bC K' base w s L ro vc vr vn vo vt vu vk vb)(l:∀j (hj:j<L.length),L[j].2.1.isSome=true)(m:ro.isSome=true)(hp:fO 3 w K s.aDA vt vu vk vb)(k:∀b,K b->K' b)(i:∀b,K' b->K b\/base<=b){B:Nat}(f:K' B)(g:¬K B){q:nP}(n:aN q w w')(c:∀b,b≠B->q b):bC K base w' s L ro vc vr vn vo vt vu vk vb:=by
 have d:=h.kept B f;exact(h.aES l m hp k i).aEL n (fun b a=>c b (fun e=>g (e▸a))) (fun b a=>c b (fun e=>d.2.1 (by rw[<-e,a]))) (fun b a=>c b (fun e=>d.2.2.1 (by rw[<-e,a]))) (fun b a=>c b (fun e=>d.2.2.2.1 (by rw[<-e,a]))) (fun b a=>c b (fun e=>d.2.2.2.2 (by rw[<-e,a])))
  (fun j hj=>⟨fun b a=>c b (fun e=>(h.aD3 j hj).1 b a (e▸f)),fun b a=>c b (fun e=>(h.aD3 j hj).2 b a (e▸f))⟩)
end
def VB(ok:nP)(a:Sto)(w:World)(e:Ending)(w':World):Prop:=∃(K:nP) (base:Nat) (L:List Mix) (ro:Option Value) (vc vr vn vo vt vu vk vb:Value),e=.returned (.agg (aX a vc vr vn vo vt vu vk vb))/\(∀b,K b->(ok b/\b<w.heap.size)\/w.heap.size<=b)/\w.heap.size<=base/\bC K base w' a L ro vc vr vn vo vt vu vk vb/\Below w.heap.size w w'
def Wn(ok:nP)(base R B:Nat)(O:Obj)(w w':World)(a:Sto):Prop:=∃(K:nP) (L:List Mix) (ro:Option Value) (vc vr vn vo vt vu vk vb:Value),w'.heap[B]? =some (.cells (aX a vc vr vn vo vt vu vk vb) 58 (0,0))/\w'.heap[R]? =some O/\(∀b,K b->(ok b/\b<w.heap.size)\/base<=b)/\bC K base w' a L ro vc vr vn vo vt vu vk vb/\Below w.heap.size w w'
theorem VC{ok K:nP}{base R:Nat}{w wc:World}{a:Sto}{L:List Mix}{ro:Option Value}{vc vr vn vo vt vu vk vb i j n o p q r s t v k l m:Value}(e:bC K base wc a L ro vc vr vn vo vt vu vk vb)(c:∀b,K b->(ok b/\b<w.heap.size)\/base<=b)(h1:w.heap.size<=R)(h2:R<base)(d:Below w.heap.size w wc):
 VB ok a w (.returned (.agg (aX a vc vr vn vo vt vu vk vb))) (((((((((((((wc.setCell ⟨R,0,none⟩ i).setCell ⟨R,1,none⟩ j).setCell ⟨R,2,none⟩ n).setCell ⟨R,3,none⟩ o).setCell ⟨R,4,none⟩ p).setCell ⟨R,5,none⟩ q).setCell ⟨R,6,none⟩ r).setCell ⟨R,7,none⟩ s).setCell ⟨R,8,none⟩ t).setCell ⟨R,9,none⟩ v).setCell ⟨R,10,none⟩ k).setCell ⟨R,11,none⟩ l).setCell ⟨R,12,none⟩ m):=by
 have g:¬K R:=fun h=>(c R h).elim (fun h=>qA h.2) (fun h=>by omega)
 refine⟨K,base,L,ro,vc,vr,vn,vo,vt,vu,vk,vb,rfl,fun b f=>(c b f).imp id (fun h=>by omega),qo,?_,?_⟩
 .repeat (refine bC.off ?_ g h2)
  exact e
 .repeat (refine Below.setCell ?_ h1 _)
  exact d
theorem BM{K:nP}{base:Nat}{w w':World}{s:Sto}{L:List Mix}{ro:Option Value}{g n i:Nat}{vr vn vo vt vu vk vb:Value}{k:Nat}(c:bC K base w s L ro (.slice (some ⟨g,0,none⟩) n i) vr vn vo vt vu vk vb)(d:k<L.length){v:Value}(f:L[k].2.2=some v){h:uC}{log:List uC}(r:L[k].1.log=log)(y:log.length<=900000)(hp:NG mU 3 166 base v (log++[h]) ⟨g,k * 5+4,none⟩ w w'):
 ∃v',bC K base w' {s with aDz:=s.aDz.set k {L[k].1 with log:=L[k].1.log++[h]}} (L.set k ({L[k].1 with log:=L[k].1.log++[h]},L[k].2.1,some v')) ro (.slice (some ⟨g,0,none⟩) n i) vr vn vo vt vu vk vb/\aN (fun b=>b<base\/K b) w w':=by
 subst r;obtain⟨A,l,w1,m,j,o,rfl⟩:=hp;have t:=(kI c.aDz d).2 v f;have x:=c.aDz.lt g rfl;have p:∀b,(Value.slice A (L[k].1.log++[h]).length l).ownBlock=some b->v.ownBlock=some b\/w.heap.size<=b:=fun b a=>by
  rcases o with h1|⟨q,h1,h2⟩
  .exact .inl (h1▸a)
  .rw[h1] at a;injection a with a;exact .inr (a▸h2)
 have hlen:(L[k].1.log++[h]).length<=1000000:=by rw[aL,List.length_singleton];omega
 exact⟨_,c.log d f j m p hlen,((cZ j).mono (fun b _ a e=>a.elim (fun h=>qA ((t.1.lt b e.symm).1)) (fun h=>(c.aD3 k d).2 b (cN.2 ⟨v,f,e.symm⟩) h))).trans ((aI _).mono (fun b _ a e=>a.elim (fun h=>by omega) (fun h=>(c.kept b h).2.1 (by rw[e];rfl))))⟩
theorem QCD{p:Prop}(h:p:=by
 rw[hR];simp only[aL,List.length_take,Array.length_toList,Builtin.zeroCells,Array.size_map,Array.size_range,h6];omega):p:=h
theorem QCv{p:Prop}(h:p:=by
 rw[hR,List.append_assoc,List.take_append_of_le_length (by rw[List.length_take];omega)];exact List.take_of_length_le (by rw[List.length_take];omega)):p:=h
theorem QBH{p:Prop}(h:p:=by
 have ha:(⟨g,0,none⟩:Addr).add j=⟨g,0+j,none⟩:=by unfold Addr.add;split<;>simp_all
 rw[ha,Nat.zero_add];rw[List.getElem?_take] at hj;split at hj
 .show w.cell? ⟨g,j,none⟩=some v;simp only[World.cell?,hg'];simpa using hxc j v hj
 .cases hj):p:=h
theorem QBo{p:Prop}(h:p:=by
 subst h1 h2
 apply List.ext_getElem?
 intro j;simp only[List.getElem?_append,List.getElem?_take,List.getElem?_drop,aL,List.length_take,List.length_drop,aL]
 repeat' split
 all_goals (first|rfl|omega|(congr 1;omega)|skip)
 all_goals (first|(rw[List.getElem?_eq_none qo])|(rw[List.getElem?_eq_none qo,List.getElem?_eq_none qo])|skip)):p:=h
theorem QBk{p:Prop}(h:p:=by
 rw[h8] at h9;refine⟨some ⟨g,0,none⟩,c,rfl,⟨?_,.inr ⟨g,c,_,rfl,hbg,HW5.o,hroom,hcm,?_,?_⟩⟩,hgr,.inl rfl⟩
 .rw[<-h9,List.length_take];simp only[aL,List.length_take,List.length_drop];have:=HL1.o;have:=HCS.o;omega
 .simp only[List.size_toArray,aL,List.length_take,List.length_drop];have:=HL1.o;have:=HCS.o;omega
 .rw[List.toList_toArray,e1];exact h9):p:=h
theorem QAW{p:Prop}(h:p:=by
 have hi1:i<9223372036854775807:=qo;go_enter func83,ntmps83;go_wp2_with (at_builtin;refine fR zT rfl (.tmp 23) (.tmp 24) rfl base _ i xs rfl HO.o (some ⟨vb,0,none⟩) 1 vc CS rfl (qA HC.o) HSL.o H1.o (by unfold maxLen;omega) qo hbase ?_;intro A' c' w4 hw4 hg4 hat4;have H4:=aA hw4;have H5:=aA hg4;have H6:=aA hat4;clear hw4 hg4 hat4)
 go_ret;unfold pO;refine⟨A',c',rfl,?_,H5.o,H6.o⟩;have hl:xs.length=i * 5:=HO.o.1;rw[List.take_of_length_le qo,List.drop_of_length_le qo,List.append_nil];exact H4.o):p:=h
theorem QAV{p:Prop}(h:p:=by
 have hi1:i<9223372036854775807:=qo;go_enter func139,ntmps139;go_wp2_with (at_builtin;refine fR xD rfl (.tmp 23) (.tmp 24) rfl base _ i xs rfl HO.o (some ⟨vb,0,none⟩) 1 vc CS rfl (qA HC.o) HSL.o H1.o (by unfold maxLen;omega) qo hbase ?_;intro A' c' w4 hw4 hg4 hat4;have H4:=aA hw4;have H5:=aA hg4;have H6:=aA hat4;clear hw4 hg4 hat4)
 go_ret;unfold pO;refine⟨A',c',rfl,?_,H5.o,H6.o⟩;have hl:xs.length=i * 4:=HO.o.1;rw[List.take_of_length_le qo,List.drop_of_length_le qo,List.append_nil];exact H4.o):p:=h
theorem QAD{p:Prop}(h:p:=by
 rw[HRT.o] at h9;refine⟨some ⟨w.heap.size,0,none⟩,G,rfl,⟨?_,.inr ⟨w.heap.size,G,_,rfl,hbase,HW6.o,HGn.o,HGm.o,?_,?_⟩⟩,?_,.inr rfl⟩
 .rw[<-h9,List.length_take];simp only[aL,List.length_take,List.length_drop];have:=HL1.o;have:=HDL.o;have:=HXL.o;have:=HGn.o;omega
 .simp only[List.size_toArray,aL,List.length_take,List.length_drop];have:=HL1.o;have:=HDL.o;have:=HXL.o;have:=HGn.o;omega
 .rw[List.toList_toArray,e1,e2];exact h9
 .have hB:=HW1B.o;have h5:=HG5.o;have h6:=HG6.o;refine⟨h6.os.trans (h5.os.trans hB.os),h6.tape.trans (h5.tape.trans hB.tape),h6.output.trans (h5.output.trans hB.output),lT hB.size (lT h5.size h6.size),fun k hk _=> ?_⟩;have h51:=h5.block k (lL hk hB.size) (fun e=>by injection e;omega);exact(h6.block k (lL hk (lT hB.size h5.size)) (fun e=>by injection e;omega)).trans (h51.trans (hB.block k hk))):p:=h
section
variable {P:Program}
theorem Js(w:World)(d B ty elem:TypeId)(s g o c m:Nat)(a:Addr)(l A:Nat)(cur:Array Value)(t:TypeId)(k:Nat)(cs:List Value)
 (hu:P.underlying d=some (.slice elem))(f:(P.info? elem).map (·.size)=some s)
 (p:w.heap[g]? =some (.cells cur t (0,0)))(r:Nat.min l c=k)(x:cs.length=k * s)
 (y:∀j v,cs[j]? =some v->w.cell? (a.add j)=some v)(n:o+cs.length<=cur.size)(h1:∀v∈cs,v.oneCell'=true):
 (Builtin.copy_ #[d,B] ty #[.slice (some ⟨g,o,none⟩) c m,.slice (some a) l A]).run P w=
   .ok (goInt k) (w.setRow g (cur.toList.take o++cs++cur.toList.drop (o+cs.length)).toArray):=by
 have e:=run_loadCells_list (P:=P) w a cs y;have z:=run_storeCells_at P g o t cs 0 cur w p (by simpa using n) h1
 cases b:P.info? elem with
 |none=>simp[b] at f
 |some i=>
  have q:i.size=s:=by simpa [b] using f
  rw[x] at e;simp[Builtin.copy_,run_underlying hu,Builtin.lenOf,Builtin.firstCells,sizeOf,typeInfo,b,q,r,e,z]
theorem VD{w:World}(g:Nat)(cs:Array Value):w.grownBy (w.setRow g cs) (some g):=⟨rfl,rfl,rfl,by simp[World.setRow],fun k _ a=>setRow_other w g k cs (fun e=>a (by rw[e]))⟩
theorem VE{w:World}{o:Oper}{a:Act}{K:Act->World->Prop}{Q:Exit->Act->World->Prop}(d x:Operand)(f q:TypeId)
 (D:o.op=.call {callee:= .builtin .copy,args:=#[d,x],argTypes:=#[f,q]})(elem:TypeId)(s:Nat)(hu:P.underlying f=some (.slice elem))(G:(P.info? elem).map (·.size)=some s)
 (g b off i e m b' r c l p:Nat)(y:a.eval d=.slice (some ⟨b,i,none⟩) e m)(J:a.eval x=.slice (some ⟨b',c,none⟩) l p)(E:i=off)(H:c=r)(A:b=g)
 (cur:List Value)(t:TypeId)(n:w.heap[g]? =some (.cells cur.toArray t (0,0)))(k:Nat)(cs:List Value)(B:Nat.min l e=k)(C:cs.length=k * s)
 (I:∀j v,cs[j]? =some v->w.cell? ⟨b',r+j,none⟩=some v)(z:off+cs.length<=cur.length)(h1:∀v∈cs,v.oneCell'=true)
 (h:∀w',Hid (w'.heap[g]? =some (.cells (cur.take off++cs++cur.drop (off+cs.length)).toArray t (0,0)))->w.grownBy w' (some g)->K (a.put o.dst (goInt k)) w'):o.wp P a w K Q:=by
 subst E H A;have F:=Js (P:=P) w f q o.type elem s b i e m ⟨b',c,none⟩ l p cur.toArray t k cs hu G n B C
  (fun j v hj=>by
    have ha:(⟨b',c,none⟩:Addr).add j=⟨b',c+j,none⟩:=by unfold Addr.add;split<;>simp_all
    rw[ha];exact I j v hj) (by simpa using z) h1
 unfold Oper.wp execOp;simp only[D,resolve,invoke,builtin,Sem.run_bind,Sem.run_pure,Result.andThen_ok,List.map_toArray,List.map_cons,List.map_nil,y,J,F];exact h _ (setRow_heap w b _ _ t _ n) (VD b _)
theorem sC{w:World}{ops:Array Oper}{rest:List Oper}{o:Oper}{a:Act}{Q:Exit->Act->World->Prop}(B:o.guard=none)(d x:Operand)(c q:TypeId)
 (F:o.op=.call {callee:= .builtin .copy,args:=#[d,x],argTypes:=#[c,q]})(elem:TypeId)(s:Nat)(hu:P.underlying c=some (.slice elem))(H:(P.info? elem).map (·.size)=some s)
 (g e off f b n b' l m i p:Nat)(y:a.eval d=.slice (some ⟨e,f,none⟩) b n)(K:a.eval x=.slice (some ⟨b',m,none⟩) i p)(G:f=off)(I:m=l)(C:e=g)
 (cur:List Value)(t:TypeId)(A:w.heap[g]? =some (.cells cur.toArray t (0,0)))(k:Nat)(cs:List Value)(D:Nat.min i b=k)(E:cs.length=k * s)
 (J:∀j v,cs[j]? =some v->w.cell? ⟨b',l+j,none⟩=some v)(z:off+cs.length<=cur.length)(h1:∀v∈cs,v.oneCell'=true)
 (h:∀w',Hid (w'.heap[g]? =some (.cells (cur.take off++cs++cur.drop (off+cs.length)).toArray t (0,0)))->w.grownBy w' (some g)->wpList P ops Q rest (a.put o.dst (goInt k)) w'):wpList P ops Q (o::rest) a w:=
 wpList_plain B fun _ r=>VE d x c q F elem s hu H g e off f b n b' l m i p y K G I C cur t A k cs D E J z h1 fun w' h2 h3=>r _ _ (h w' h2 h3)
theorem vH{w:World}{ops:Array Oper}{o:Oper}{a:Act}{K:Act->World->Prop}{Q:Exit->Act->World->Prop}{E:Prop}(A:o.guard=none)(d x:Operand)(c q:TypeId)
 (F:o.op=.call {callee:= .builtin .copy,args:=#[d,x],argTypes:=#[c,q]})(elem:TypeId)(s:Nat)(hu:P.underlying c=some (.slice elem))(H:(P.info? elem).map (·.size)=some s)
 (g e off f b n b' l m i p:Nat)(r:a.eval d=.slice (some ⟨e,f,none⟩) b n)(L:a.eval x=.slice (some ⟨b',m,none⟩) i p)(G:f=off)(I:m=l)(B:e=g)
 (cur:List Value)(t:TypeId)(z:w.heap[g]? =some (.cells cur.toArray t (0,0)))(k:Nat)(cs:List Value)(C:Nat.min i b=k)(D:cs.length=k * s)
 (J:∀j v,cs[j]? =some v->w.cell? ⟨b',l+j,none⟩=some v)(y:off+cs.length<=cur.length)(h1:∀v∈cs,v.oneCell'=true)
 (h:∀w',Hid (w'.heap[g]? =some (.cells (cur.take off++cs++cur.drop (off+cs.length)).toArray t (0,0)))->w.grownBy w' (some g)->K (a.put o.dst (goInt k)) w'):if Region.wanted o (yielded ops a.tmps)=true then Oper.wp P o a w K Q else E:=by
 rw[iP (by simp[Region.wanted,A])];exact VE d x c q F elem s hu H g e off f b n b' l m i p r L G I B cur t z k cs C D J y h1 h
end
theorem PN{C D cs:List Value}{a s L:Nat}(hC:L+s<=C.length)(c:D.length=L - a)(ha:a<=L)(d:cs.length=s){C1 b:List Value}(h1:C1=C.take (a+s)++D++C.drop (a+s+D.length))(h2:b=C1.take a++cs++C1.drop (a+cs.length)):b.take (L+s)=C.take a++cs++D:=by
 exact QBo
theorem VF{C D cs:List Value}{a s L:Nat}(hC:L+s<=C.length)(c:D.length=L - a)(ha:a<=L)(d:cs.length=s){C1 b:List Value}(h1:C1=C.take a++cs++C.drop (a+cs.length))(h2:b=C1.take (a+s)++D++C1.drop (a+s+D.length)):b.take (L+s)=C.take a++cs++D:=by
 exact QBo
def pO(base:Nat)(e:TypeId)(s n i:Nat)(v:Value)(xs cs:List Value)(w:World)(o:Ending)(w':World):Prop:=∃A a,o=.returned (.slice A (n+1) a)/\w'.ownsRow base e s (.slice A (n+1) a) (n+1) (xs.take (i * s)++cs++xs.drop (i * s))/\w.grownBy w' v.ownBlock/\((Value.slice A (n+1) a).ownBlock=v.ownBlock\/(Value.slice A (n+1) a).ownBlock=some w.heap.size)
theorem RS(w:World)(base:Nat)(a:oD)(n c i:Nat)(xs CS:List Value)(vb vc:Nat)(ty:TypeId)
 (f:w.ownsRow base 178 4 (.slice a n c) n xs)(hi:i<=n)(hn:n<=1000000)(hbase:base<=w.heap.size)(b:w.heap[vb]? =some (.cells CS.toArray ty (0,0)))(d:CS.length=4)
 (h1:∀u∈CS,u.oneCell'=true)(x:∀u∈xs,u.oneCell'=true)(an:(Value.slice a n c).ownBlock≠some vb):
 Calls prog 139 #[.slice a n c,.int .i64 i,.slice (some ⟨vb,0,none⟩) 1 vc] w (pO base 178 4 n i (.slice a n c) xs CS w):=by
 have Y:=aD b;have H:Sl w w.heap.size (some ⟨vb,0,none⟩) CS:=fun _=>⟨vb,0,rfl,Y,fun j u hu=>by simp only[World.cell?,b,Nat.zero_add];simpa using hu⟩
 by_cases bc:i=n
 .subst bc;obtain⟨HO,HSL,HV,H1,HC⟩:=gD f H b h1 d;clear f H b h1 x an d;by_cases W:c=i
  .have bb:=W.symm;clear W;subst bb;exact QAV
  .skip
   exact QAV
 .have bo:i<n:=qo
  rcases f.2 with ⟨e1,e2⟩|⟨g,cap,cur,e1,hbg,hg,bp,hcm,ag,al⟩
  .omega
  injection e1 with e1 e2 e3;subst e1 e3;have aq:¬vb=g:=fun e=>an (by rw[e];rfl)
  have q:=f.1;obtain⟨C,hC⟩:=xE cur.toList;have hg':w.heap[g]? =some (.cells C.toArray 178 (0,0)):=by rw[hC,Array.toArray_toList];exact hg
  have y:C.length=c * 4:=by rw[hC,Array.length_toList];exact ag
  have J:C.take (n * 4)=xs:=by rw[hC];exact al
  have hxc:∀j u,xs[j]? =some u->C[j]? =some u:=fun j u hu=>by
   rw[<-J,List.getElem?_take] at hu;split at hu
   .exact hu
   .cases hu
  clear hC hg al ag;have bm:c<=9223372036854775807:=by unfold maxLen at hcm;omega
  have ai:=aD hg';have F:(xs.drop (i * 4)).length=(n - i) * 4:=by rw[List.length_drop,q,Nat.sub_mul]
  have E:∀u∈xs.drop (i * 4),u.oneCell'=true:=fun u hu=>x u (List.mem_of_mem_drop hu)
  have I:(prog.info? 178).map (·.size)=some 4:=by obtain⟨i0,z0,h2,_,h4,_⟩:=xD.info;rw[h2];simp[h4]
  have m:=xD.under;have K:∀j u,CS[j]? =some u->w.cell? ⟨vb,0+j,none⟩=some u:=fun j u hu=>by simp only[World.cell?,b,Nat.zero_add];simpa using hu
  have bs:IntKind.i64.wrap ((i:Int)+1)=(i:Int)+1:=by rw[IntKind.wrap_i64];omega
  have bh:(0:Int)<=(i:Int)+1:=qo;have bn:i<=n:=qo;have br:((i:Int)+1).toNat=i+1:=qo;have bq:¬((i:Int)=(n:Int)):=qo;have bk:(i:Int)<=(n:Int)+1:=qo;by_cases hroom:n+1<=c
  .have bj:¬(c=i+1):=qo;have bl:¬(c=i):=qo;have bd:∀Z S,(callFunc 191 #[.slice (some ⟨vb,0,none⟩) 1 vc,.slice (some ⟨g,(i+1) * 4,none⟩) Z S]).run prog w=.ok (.value (.bool false)) w:=fun Z S=>by
    rw[run_callFunc_extern func191 (by kernel_rfl) (by kernel_rfl) (by kernel_rfl) (e:=Extern.SlicesOverlaps.overlaps #[101,101] #[4]) (by kernel_rfl),
     Lib.run_overlaps_apart w 101 4 178 m 4 (by obtain⟨i0,z0,h2,_,h4,_⟩:=xD.info;intro w9;simp[sizeOf,typeInfo,h2,h4]) ⟨vb,0,none⟩ ⟨g,(i+1) * 4,none⟩ 1 vc Z S aq ty 178 CS.length (c * 4)
      (by simp[World.shape?,b]) (by simp[World.shape?,hg',y]) qo (aR b 0) (aR b _)]
    rfl
   have r:Hid (∀j u,(xs.drop (i * 4))[j]? =some u->w.cell? ⟨g,i * 4+j,none⟩=some u):=aA (fun j u hu=>by rw[List.getElem?_drop] at hu;simp only[World.cell?,hg'];simpa using hxc _ u hu);obtain⟨N,HV,HG,HX,O,H1,ay,ax⟩:=SN y b hg' hxc E h1 K J;obtain⟨HCS,HDL,HXL⟩:=aY d F q;clear f b hg' y hxc E h1 K J d F q H x;go_enter func139,ntmps139;go_wp2_with (simp only[bd])
   go_region_law (refine vH rfl _ _ _ _ rfl 178 4 m I g g ((i+1) * 4) ((i+1) * 4) (n - i) (c - (i+1)) g (i * 4) (i * 4) (n+1 - i) (c - i) (by simp[Act.eval,Act.put]) (by simp[Act.eval,Act.put]) rfl rfl rfl C 178 HG.o (n - i) (xs.drop (i * 4)) (by simp only[Nat.min_def];split<;>omega) HDL.o r.o (qD HDL.o N.o) O.o ?_;intro w4 hw4 hg4)
   obtain⟨C1,T⟩:=xE (C.take ((i+1) * 4)++xs.drop (i * 4)++C.drop ((i+1) * 4+(xs.drop (i * 4)).length));have a7:Hid (w4.heap[g]? =some (.cells C1.toArray 178 (0,0))):=aA (by rw[T];exact hw4.o);have aa:=aA T;have l:=aA hg4;have a1:Hid (∀j u,CS[j]? =some u->w4.cell? ⟨vb,0+j,none⟩=some u):=aA (fun j u hu=>(World.cell?_of_block (a:=⟨vb,0+j,none⟩) (hg4.block vb Y (fun e=>aq (by injection e)))).trans (ay.o j u hu));clear hw4 hg4 T;have HL1:Hid (C1.length=c * 4):=aA (by rw[aa.o];simp only[aL,List.length_take,List.length_drop];have:=N.o;have:=HXL.o;omega);go_wp2_with (refine sC rfl (.tmp 80) (.tmp 81) _ _ rfl 178 4 m I g _ (i * 4) _ _ _ _ 0 _ _ _ rfl rfl rfl rfl rfl C1 178 a7.o 1 CS (by simp only[Nat.min_def];split<;>omega) (qA HCS.o) a1.o (qD HL1.o HCS.o) H1.o ?_;intro M p o;have HW5:=aA p.o;have HG5:=aA o;clear p o)
   go_ret;unfold pO;have hgr:=(⟨l.o.os,l.o.tape,l.o.output,l.o.size,l.o.block⟩:w.grownBy w4 (some g)).trans HG5.o;have e1:(n+1) * 4=n * 4+4:=qo;have e2:(i+1) * 4=i * 4+4:=qo;have h9:=PN (C:=C) (D:=xs.drop (i * 4)) (cs:=CS) (a:=i * 4) (s:=4) (L:=n * 4) (qA N.o) (qA HDL.o) qo HCS.o (C1:=C1) (by rw[aa.o,e2]) rfl;have h8:C.take (i * 4)=xs.take (i * 4):=by rw[<-ax.o,List.take_take,Nat.min_eq_left qo]
   exact QBk
  .have W:¬(c=i):=qo;obtain⟨i0,z0,h2,h3,h4,h5,h6⟩:=xD.info;have hold:(Builtin.firstCells i0.size i (.slice (some ⟨g,0,none⟩) i c)).run prog w.drew=.ok (xs.take (i * 4)).toArray w.drew:=by
    rw[h4];refine run_firstCells_some w.drew 4 i ⟨g,0,none⟩ i c (xs.take (i * 4)) (by rw[List.length_take];omega) (fun j v hj=> ?_);exact QBH
   have X:i+(n+1 - i)=n+1:=qo;have aj:(n:Int)+1 - (i:Int)=((n+1 - i:Nat):Int):=qo;obtain⟨G,z⟩:=xE (grownCap w (n+1) c 178);obtain⟨R,hR⟩:∃R:List Value,R=xs.take (i * 4)++(Builtin.zeroCells z0.cells (n+1 - i)).toList++(Builtin.zeroCells z0.cells (G - (n+1))).toList:=⟨_,rfl⟩;obtain⟨t,B⟩:=xE (w.drew.alloc (.cells R.toArray 178));have ak:∀ty,(Builtin.append_ #[101,3] ty #[.slice (some ⟨g,0,none⟩) i c,.int .i64 ((n:Int)+1 - (i:Int))]).run prog w=.ok (.slice (some ⟨w.heap.size,0,none⟩) (n+1) G) t:=fun ty=>by
    have h:=Lib.run_append_grow_zeros w 101 3 ty 178 i0 z0 .i64 .i64 xD.under (by kernel_rfl) h2 h3 (some ⟨g,0,none⟩) i c (xs.take (i * 4)) hold (n+1 - i) qo qo qo qo (by rw[h5];omega) (by rw[h5,X];exact growslice_fits qo qo);rw[X,<-z] at h;rw[aj,h,B,hR]
    congr 3
    simp
   have ba:n+1<=G:=by rw[z];exact grownCap_ge w _ _ _
   have U:G<=maxLen:=by rw[z];exact grownCap_le_maxLen w (n+1) c _ (by unfold maxLen;omega)
   have ab:R.length=G * 4:=by
    exact QCD
   have ae:t.heap[w.heap.size]? =some (.cells R.toArray 178 (0,0)):=by rw[B];exact heap_alloc_new w.drew _
   have V:Below w.heap.size w t:=by
    have h:=aB w.drew (.cells R.toArray 178);rw[B];exact⟨h.os,h.tape,h.output,h.size,h.block⟩
   have ad:R.take (i * 4)=xs.take (i * 4):=by
    exact QCv
   have ao:∀j u,CS[j]? =some u->t.cell? ⟨vb,0+j,none⟩=some u:=fun j u hu=>(World.cell?_of_block (a:=⟨vb,0+j,none⟩) (V.block vb Y)).trans (K j u hu)
   have bf:¬(G=i):=qo;have bg:¬(G=i+1):=qo;have be:G<=9223372036854775807:=by unfold maxLen at U;omega
   have r:Hid (∀j u,(xs.drop (i * 4))[j]? =some u->w.cell? ⟨g,i * 4+j,none⟩=some u):=aA (fun j u hu=>by rw[List.getElem?_drop] at hu;simp only[World.cell?,hg'];simpa using hxc _ u hu);obtain⟨av,HGn,HGm,P,a6,HW1B,HRT,az⟩:=SN ak ba U ab ae V ad ao;obtain⟨O,H1,HCS,HDL,HXL⟩:=gD E h1 d F q;clear f b hg' y hxc E h1 K J d F q H x hold X aj z hR B ak U ab ae V ad ao h2 h3 h4 h5 h6;go_enter func139,ntmps139;go_wp2_with (first
    |(at_builtin;refine Lib.wpList_append_run _ rfl _ _ _ _ rfl _ _ rfl rfl _ _ (av.o _) ?_)
    |(refine sC rfl (.tmp 43) (.tmp 44) _ _ rfl 178 4 m I w.heap.size _ (i * 4) _ _ _ _ 0 _ _ _ rfl rfl rfl rfl rfl R 178 a6.o 1 CS (by simp only[Nat.min_def];split<;>omega) (qA HCS.o) az.o (qF P.o HCS.o HGn.o) H1.o ?_;intro M p o;have HW5:=aA p.o;have HG5:=aA o;clear p o))
   obtain⟨Q,A⟩:=xE (R.take (i * 4)++CS++R.drop (i * 4+CS.length));have au:=aA A;have a8:Hid (M.heap[w.heap.size]? =some (.cells Q.toArray 178 (0,0))):=aA (by rw[A];exact HW5.o);have af:M.heap[g]? =w.heap[g]? :=(HG5.o.block g (lL ai HW1B.o.size) (fun e=>by injection e;omega)).trans (HW1B.o.block g ai);have aw:Hid (∀j u,(xs.drop (i * 4))[j]? =some u->M.cell? ⟨g,i * 4+j,none⟩=some u):=aA (fun j u hu=>(World.cell?_of_block (a:=⟨g,i * 4+j,none⟩) af).trans (r.o j u hu));have HL1:Hid (Q.length=G * 4):=aA (by rw[A];simp only[aL,List.length_take,List.length_drop];have:=P.o;have:=HCS.o;have:=HGn.o;omega);clear r af A HW5;go_region_law (refine vH rfl _ _ _ _ rfl 178 4 m I w.heap.size w.heap.size ((i+1) * 4) ((i+1) * 4) (n - i) (G - (i+1)) g (i * 4) (i * 4) (n - i) (c - i) (by simp[Act.eval,Act.put]) (by simp[Act.eval,Act.put]) rfl rfl rfl Q 178 a8.o (n - i) (xs.drop (i * 4)) (by simp only[Nat.min_def];split<;>omega) HDL.o aw.o (qF HDL.o HL1.o HGn.o) O.o ?_;intro w6 ar ah;have HW6:=aA ar.o;have HG6:=aA ah;clear ar ah)
   go_wp2;go_ret;unfold pO;have e1:(n+1) * 4=n * 4+4:=qo;have e2:(i+1) * 4=i * 4+4:=qo;have h9:=VF (C:=R) (D:=xs.drop (i * 4)) (cs:=CS) (a:=i * 4) (s:=4) (L:=n * 4) (qD P.o HGn.o) (qA HDL.o) qo HCS.o au.o rfl;exact QAD
theorem RT(w:World)(base:Nat)(a:oD)(n c i:Nat)(xs CS:List Value)(vb vc:Nat)(ty:TypeId)
 (f:w.ownsRow base 104 5 (.slice a n c) n xs)(hi:i<=n)(hn:n<=1000000)(hbase:base<=w.heap.size)(b:w.heap[vb]? =some (.cells CS.toArray ty (0,0)))(d:CS.length=5)
 (h1:∀u∈CS,u.oneCell'=true)(x:∀u∈xs,u.oneCell'=true)(an:(Value.slice a n c).ownBlock≠some vb):
 Calls prog 83 #[.slice a n c,.int .i64 i,.slice (some ⟨vb,0,none⟩) 1 vc] w (pO base 104 5 n i (.slice a n c) xs CS w):=by
 have Y:=aD b;have H:Sl w w.heap.size (some ⟨vb,0,none⟩) CS:=fun _=>⟨vb,0,rfl,Y,fun j u hu=>by simp only[World.cell?,b,Nat.zero_add];simpa using hu⟩
 by_cases bc:i=n
 .subst bc;obtain⟨HO,HSL,HV,H1,HC⟩:=gD f H b h1 d;clear f H b h1 x an d;by_cases W:c=i
  .have bb:=W.symm;clear W;subst bb;exact QAW
  .skip
   exact QAW
 .have bo:i<n:=qo
  rcases f.2 with ⟨e1,e2⟩|⟨g,cap,cur,e1,hbg,hg,bp,hcm,ag,al⟩
  .omega
  injection e1 with e1 e2 e3;subst e1 e3;have aq:¬vb=g:=fun e=>an (by rw[e];rfl)
  have q:=f.1;obtain⟨C,hC⟩:=xE cur.toList;have hg':w.heap[g]? =some (.cells C.toArray 104 (0,0)):=by rw[hC,Array.toArray_toList];exact hg
  have y:C.length=c * 5:=by rw[hC,Array.length_toList];exact ag
  have J:C.take (n * 5)=xs:=by rw[hC];exact al
  have hxc:∀j u,xs[j]? =some u->C[j]? =some u:=fun j u hu=>by
   rw[<-J,List.getElem?_take] at hu;split at hu
   .exact hu
   .cases hu
  clear hC hg al ag;have bm:c<=9223372036854775807:=by unfold maxLen at hcm;omega
  have ai:=aD hg';have F:(xs.drop (i * 5)).length=(n - i) * 5:=by rw[List.length_drop,q,Nat.sub_mul]
  have E:∀u∈xs.drop (i * 5),u.oneCell'=true:=fun u hu=>x u (List.mem_of_mem_drop hu)
  have I:(prog.info? 104).map (·.size)=some 5:=by obtain⟨i0,z0,h2,_,h4,_⟩:=zT.info;rw[h2];simp[h4]
  have m:=zT.under;have K:∀j u,CS[j]? =some u->w.cell? ⟨vb,0+j,none⟩=some u:=fun j u hu=>by simp only[World.cell?,b,Nat.zero_add];simpa using hu
  have bs:IntKind.i64.wrap ((i:Int)+1)=(i:Int)+1:=by rw[IntKind.wrap_i64];omega
  have bh:(0:Int)<=(i:Int)+1:=qo;have bn:i<=n:=qo;have br:((i:Int)+1).toNat=i+1:=qo;have bq:¬((i:Int)=(n:Int)):=qo;have bk:(i:Int)<=(n:Int)+1:=qo;by_cases hroom:n+1<=c
  .have bj:¬(c=i+1):=qo;have bl:¬(c=i):=qo;have bd:∀Z S,(callFunc 136 #[.slice (some ⟨vb,0,none⟩) 1 vc,.slice (some ⟨g,(i+1) * 5,none⟩) Z S]).run prog w=.ok (.value (.bool false)) w:=fun Z S=>by
    rw[run_callFunc_extern func136 (by kernel_rfl) (by kernel_rfl) (by kernel_rfl) (e:=Extern.SlicesOverlaps.overlaps #[46,46] #[4]) (by kernel_rfl),
     Lib.run_overlaps_apart w 46 4 104 m 5 (by obtain⟨i0,z0,h2,_,h4,_⟩:=zT.info;intro w9;simp[sizeOf,typeInfo,h2,h4]) ⟨vb,0,none⟩ ⟨g,(i+1) * 5,none⟩ 1 vc Z S aq ty 104 CS.length (c * 5)
      (by simp[World.shape?,b]) (by simp[World.shape?,hg',y]) qo (aR b 0) (aR b _)]
    rfl
   have r:Hid (∀j u,(xs.drop (i * 5))[j]? =some u->w.cell? ⟨g,i * 5+j,none⟩=some u):=aA (fun j u hu=>by rw[List.getElem?_drop] at hu;simp only[World.cell?,hg'];simpa using hxc _ u hu);obtain⟨N,HV,HG,HX,O,H1,ay,ax⟩:=SN y b hg' hxc E h1 K J;obtain⟨HCS,HDL,HXL⟩:=aY d F q;clear f b hg' y hxc E h1 K J d F q H x;go_enter func83,ntmps83;go_wp2_with (simp only[bd])
   go_region_law (refine vH rfl _ _ _ _ rfl 104 5 m I g g ((i+1) * 5) ((i+1) * 5) (n - i) (c - (i+1)) g (i * 5) (i * 5) (n+1 - i) (c - i) (by simp[Act.eval,Act.put]) (by simp[Act.eval,Act.put]) rfl rfl rfl C 104 HG.o (n - i) (xs.drop (i * 5)) (by simp only[Nat.min_def];split<;>omega) HDL.o r.o (qD HDL.o N.o) O.o ?_;intro w4 hw4 hg4)
   obtain⟨C1,T⟩:=xE (C.take ((i+1) * 5)++xs.drop (i * 5)++C.drop ((i+1) * 5+(xs.drop (i * 5)).length));have a7:Hid (w4.heap[g]? =some (.cells C1.toArray 104 (0,0))):=aA (by rw[T];exact hw4.o);have aa:=aA T;have l:=aA hg4;have a1:Hid (∀j u,CS[j]? =some u->w4.cell? ⟨vb,0+j,none⟩=some u):=aA (fun j u hu=>(World.cell?_of_block (a:=⟨vb,0+j,none⟩) (hg4.block vb Y (fun e=>aq (by injection e)))).trans (ay.o j u hu));clear hw4 hg4 T;have HL1:Hid (C1.length=c * 5):=aA (by rw[aa.o];simp only[aL,List.length_take,List.length_drop];have:=N.o;have:=HXL.o;omega);go_wp2_with (refine sC rfl (.tmp 80) (.tmp 81) _ _ rfl 104 5 m I g _ (i * 5) _ _ _ _ 0 _ _ _ rfl rfl rfl rfl rfl C1 104 a7.o 1 CS (by simp only[Nat.min_def];split<;>omega) (qA HCS.o) a1.o (qD HL1.o HCS.o) H1.o ?_;intro M p o;have HW5:=aA p.o;have HG5:=aA o;clear p o)
   go_ret;unfold pO;have hgr:=(⟨l.o.os,l.o.tape,l.o.output,l.o.size,l.o.block⟩:w.grownBy w4 (some g)).trans HG5.o;have e1:(n+1) * 5=n * 5+5:=qo;have e2:(i+1) * 5=i * 5+5:=qo;have h9:=PN (C:=C) (D:=xs.drop (i * 5)) (cs:=CS) (a:=i * 5) (s:=5) (L:=n * 5) (qA N.o) (qA HDL.o) qo HCS.o (C1:=C1) (by rw[aa.o,e2]) rfl;have h8:C.take (i * 5)=xs.take (i * 5):=by rw[<-ax.o,List.take_take,Nat.min_eq_left qo]
   exact QBk
  .have W:¬(c=i):=qo;obtain⟨i0,z0,h2,h3,h4,h5,h6⟩:=zT.info;have hold:(Builtin.firstCells i0.size i (.slice (some ⟨g,0,none⟩) i c)).run prog w.drew=.ok (xs.take (i * 5)).toArray w.drew:=by
    rw[h4];refine run_firstCells_some w.drew 5 i ⟨g,0,none⟩ i c (xs.take (i * 5)) (by rw[List.length_take];omega) (fun j v hj=> ?_);exact QBH
   have X:i+(n+1 - i)=n+1:=qo;have aj:(n:Int)+1 - (i:Int)=((n+1 - i:Nat):Int):=qo;obtain⟨G,z⟩:=xE (grownCap w (n+1) c 104);obtain⟨R,hR⟩:∃R:List Value,R=xs.take (i * 5)++(Builtin.zeroCells z0.cells (n+1 - i)).toList++(Builtin.zeroCells z0.cells (G - (n+1))).toList:=⟨_,rfl⟩;obtain⟨t,B⟩:=xE (w.drew.alloc (.cells R.toArray 104));have ak:∀ty,(Builtin.append_ #[46,3] ty #[.slice (some ⟨g,0,none⟩) i c,.int .i64 ((n:Int)+1 - (i:Int))]).run prog w=.ok (.slice (some ⟨w.heap.size,0,none⟩) (n+1) G) t:=fun ty=>by
    have h:=Lib.run_append_grow_zeros w 46 3 ty 104 i0 z0 .i64 .i64 zT.under (by kernel_rfl) h2 h3 (some ⟨g,0,none⟩) i c (xs.take (i * 5)) hold (n+1 - i) qo qo qo qo (by rw[h5];omega) (by rw[h5,X];exact growslice_fits qo qo);rw[X,<-z] at h;rw[aj,h,B,hR]
    congr 3
    simp
   have ba:n+1<=G:=by rw[z];exact grownCap_ge w _ _ _
   have U:G<=maxLen:=by rw[z];exact grownCap_le_maxLen w (n+1) c _ (by unfold maxLen;omega)
   have ab:R.length=G * 5:=by
    exact QCD
   have ae:t.heap[w.heap.size]? =some (.cells R.toArray 104 (0,0)):=by rw[B];exact heap_alloc_new w.drew _
   have V:Below w.heap.size w t:=by
    have h:=aB w.drew (.cells R.toArray 104);rw[B];exact⟨h.os,h.tape,h.output,h.size,h.block⟩
   have ad:R.take (i * 5)=xs.take (i * 5):=by
    exact QCv
   have ao:∀j u,CS[j]? =some u->t.cell? ⟨vb,0+j,none⟩=some u:=fun j u hu=>(World.cell?_of_block (a:=⟨vb,0+j,none⟩) (V.block vb Y)).trans (K j u hu)
   have bf:¬(G=i):=qo;have bg:¬(G=i+1):=qo;have be:G<=9223372036854775807:=by unfold maxLen at U;omega
   have r:Hid (∀j u,(xs.drop (i * 5))[j]? =some u->w.cell? ⟨g,i * 5+j,none⟩=some u):=aA (fun j u hu=>by rw[List.getElem?_drop] at hu;simp only[World.cell?,hg'];simpa using hxc _ u hu);obtain⟨av,HGn,HGm,P,a6,HW1B,HRT,az⟩:=SN ak ba U ab ae V ad ao;obtain⟨O,H1,HCS,HDL,HXL⟩:=gD E h1 d F q;clear f b hg' y hxc E h1 K J d F q H x hold X aj z hR B ak U ab ae V ad ao h2 h3 h4 h5 h6;go_enter func83,ntmps83;go_wp2_with (first
    |(at_builtin;refine Lib.wpList_append_run _ rfl _ _ _ _ rfl _ _ rfl rfl _ _ (av.o _) ?_)
    |(refine sC rfl (.tmp 43) (.tmp 44) _ _ rfl 104 5 m I w.heap.size _ (i * 5) _ _ _ _ 0 _ _ _ rfl rfl rfl rfl rfl R 104 a6.o 1 CS (by simp only[Nat.min_def];split<;>omega) (qA HCS.o) az.o (qF P.o HCS.o HGn.o) H1.o ?_;intro M p o;have HW5:=aA p.o;have HG5:=aA o;clear p o))
   obtain⟨Q,A⟩:=xE (R.take (i * 5)++CS++R.drop (i * 5+CS.length));have au:=aA A;have a8:Hid (M.heap[w.heap.size]? =some (.cells Q.toArray 104 (0,0))):=aA (by rw[A];exact HW5.o);have af:M.heap[g]? =w.heap[g]? :=(HG5.o.block g (lL ai HW1B.o.size) (fun e=>by injection e;omega)).trans (HW1B.o.block g ai);have aw:Hid (∀j u,(xs.drop (i * 5))[j]? =some u->M.cell? ⟨g,i * 5+j,none⟩=some u):=aA (fun j u hu=>(World.cell?_of_block (a:=⟨g,i * 5+j,none⟩) af).trans (r.o j u hu));have HL1:Hid (Q.length=G * 5):=aA (by rw[A];simp only[aL,List.length_take,List.length_drop];have:=P.o;have:=HCS.o;have:=HGn.o;omega);clear r af A HW5;go_region_law (refine vH rfl _ _ _ _ rfl 104 5 m I w.heap.size w.heap.size ((i+1) * 5) ((i+1) * 5) (n - i) (G - (i+1)) g (i * 5) (i * 5) (n - i) (c - i) (by simp[Act.eval,Act.put]) (by simp[Act.eval,Act.put]) rfl rfl rfl Q 104 a8.o (n - i) (xs.drop (i * 5)) (by simp only[Nat.min_def];split<;>omega) HDL.o aw.o (qF HDL.o HL1.o HGn.o) O.o ?_;intro w6 ar ah;have HW6:=aA ar.o;have HG6:=aA ah;clear ar ah)
   go_wp2;go_ret;unfold pO;have e1:(n+1) * 5=n * 5+5:=qo;have e2:(i+1) * 5=i * 5+5:=qo;have h9:=VF (C:=R) (D:=xs.drop (i * 5)) (cs:=CS) (a:=i * 5) (s:=5) (L:=n * 5) (qD P.o HGn.o) (qA HDL.o) qo HCS.o au.o rfl;exact QAD
theorem GG{p:Prop}(h:p:=by
 exact⟨List.prefix_refl _,Int.le_refl _⟩):p:=h
theorem Eb(s:Sto)(o:Op)(what:bY):(lY s o what).aDM=s.aDM/\(lY s o what).aDL=s.aDL:=by
 unfold lY;dsimp only;split<;>exact⟨rfl,rfl⟩
theorem KT(o:Op)(d:Bool)(s:Sto)(x:Ob):(cU o d s x).aDM=s.aDM/\(cU o d s x).aDL=s.aDL:=by
 unfold cU;split
 .exact Eb _ _ _
 .split
  .exact⟨rfl,rfl⟩
  .split<;>exact⟨rfl,rfl⟩
theorem mY(o:Op)(d:Bool):∀(l:List Ob) (s:Sto),(l.foldl (cU o d) s).aDM=s.aDM/\(l.foldl (cU o d) s).aDL=s.aDL
 | [],_=>⟨rfl,rfl⟩
 |x::l,s=>⟨(mY o d l _).1.trans (KT o d s x).1,(mY o d l _).2.trans (KT o d s x).2⟩
theorem gS(g:Bool)(s:Sto)(o:Op)(r:bY):(if g=true then gC s o r else s).aDM=s.aDM/\(if g=true then gC s o r else s).aDL=s.aDL:=by split<;>exact⟨rfl,rfl⟩
theorem Ec(s:Sto)(o:Op):s.aDM <+:(cY s o).aDM/\s.aDL<=(cY s o).aDL:=by
 unfold cY;dsimp only;split
 .exact GG
 split
 .exact GG
 split
 .exact GG
 split
 .exact GG
 split
 .exact GG
 split
 .split
  .exact GG
  .exact⟨List.prefix_append _ _,Int.le_refl _⟩
 split
 .split
  .exact⟨List.prefix_refl _,by show s.aDL<=s.aDL+1;omega⟩
  .exact GG
 split
 .exact GG
 .exact GG
theorem YT(s:Sto)(o:Op):s.aDM <+:(cK s o).1.aDM/\s.aDL<=(cK s o).1.aDL:=by
 have h:=nN s o
 rcases b:cK s o with ⟨t,r,d,e⟩
 rw[b] at h
 cases h with
 |none _ _ he k _=>exact⟨List.prefix_refl _,Int.le_refl _⟩
 |some m l glass hidden v n j g c i f p=>
  dsimp only;rw[(mY _ _ _ _).1,(mY _ _ _ _).2];by_cases a:(decide (m=(4,0))||glass)=true
  .rw[iP a];have h1:=Ec (if glass=true then gC s o o.aDX else s) o;rw[(gS glass s o o.aDX).1,(gS glass s o o.aDX).2] at h1;exact h1
  .rw[iN a,(gS glass s o o.aDX).1,(gS glass s o o.aDX).2];exact GG
end Go.Proofs.YtdfinmcogbkffaaGreatDoor
