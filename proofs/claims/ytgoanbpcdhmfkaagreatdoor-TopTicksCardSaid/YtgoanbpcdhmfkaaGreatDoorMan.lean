/- Lemmas. -/
import Derived.Test.YtgoanbpcdhmfkaaGreatDoorMam
import Derived.Lib.Overlaps
import Derived.Shelf.Spec.SlicesInsert
namespace Go.Proofs.YtgoanbpcdhmfkaaGreatDoor
open Go.RowKit
set_option linter.unusedVariables false
set_option linter.unusedSimpArgs false
set_option maxHeartbeats 16000000
open _root_.Go.Proofs.Tryz
set_option maxRecDepth 20000
section
variable {K K':nP} {base:Nat} {w w':World} {s:Sto} {L:List Mix} {ro:Option Value} {vc vr vn vo vt vu vk vb:Value}
theorem bC.aDR(h:bC K base w s L ro vc vr vn vo vt vu vk vb){q:nP}(a:aN q w w')(d:∀b,K b->q b)(f:∀b,vc.ownBlock=some b->q b)(k:∀b,vr.ownBlock=some b->q b)(g:∀b,vn.ownBlock=some b->q b)(i:∀b,bO ro=some b->q b)(e:∀j (hj:j<L.length),(∀b,bO L[j].2.1=some b->q b)/\(∀b,bO L[j].2.2=some b->q b)):bC K base w' s L ro vc vr vn vo vt vu vk vb:={
 aCR:=h.aCR
 aCW:=h.aCW
 all:=h.all
 aDd:=h.aDd
 apart:=h.apart
 aCK:=yK h.aCK a f d e
 aCO:=h.aCO.stays cT a k (fun _ h _=>h.elim)
 aCS:=h.aCS.stays dZ a g (fun _ h _=>h.elim)
 aCX:=h.aCX.aDm dA a d i (fun _ h _=>h)
 aCL:=h.aCL.aCT (a.mono fun b _ c=>d b c)
 kept:=fun b c=>⟨lL (h.kept b c).1 a.size,(h.kept b c).2⟩
 aDe:=h.aDe
 size:=lT h.size a.size}
theorem bC.aDY(h:bC K' base w s L ro vc vr vn vo vt vu vk vb)(p:∀j (hj:j<L.length),L[j].2.1.isSome=true)(x:ro.isSome=true)(hp:fM 3 w K s.aCL vt vu vk vb)(g:∀b,K b->K' b)(l:∀b,K' b->K b\/base<=b):bC K base w s L ro vc vr vn vo vt vu vk vb:=by
 refine {aCR:=h.aCR,aCW:=h.aCW,all:=h.all,aDd:=h.aDd,apart:=h.apart,aCK:= ?_,aCO:=h.aCO,aCS:=h.aCS,aCX:= ?_,aCL:=hp,kept:=fun b a=>h.kept b (g b a),aDe:=fun j hj=>⟨fun b a k=>(h.aDe j hj).1 b a (g b k),fun b a k=>(h.aDe j hj).2 b a (g b k)⟩,size:=h.size}
 .obtain⟨cs,h1,h2⟩:=h.aCK;refine⟨cs,h1,aX.aDp (fun i m r v=> ?_) h2⟩;obtain⟨B,C,e,y,z,A,o,p5⟩:=v;obtain⟨D,q⟩:=Option.isSome_iff_exists.1 (p i m);obtain⟨ul,t⟩:=Option.isSome_iff_exists.1 (h.aDd i m);have n:∀b,(K' b\/base<=b)/\b<w.heap.size/\some b≠vc.ownBlock->(K b\/base<=b)/\b<w.heap.size/\some b≠vc.ownBlock:=fun b a=>⟨a.1.elim (l b) .inr,a.2⟩
  refine⟨B,C,e,y,z,A,?_,?_⟩
  .rw[q] at o ⊢;obtain⟨q1,c,d,f⟩:=o;exact⟨q1,c,fun b a=>n b (d b a),f⟩
  .rw[t] at p5 ⊢;obtain⟨q1,c,d,f⟩:=p5;exact⟨q1,c,fun b a=>n b (d b a),f⟩
 .have h1:=h.aCX;obtain⟨u,hu⟩:=Option.isSome_iff_exists.1 x;subst hu;obtain⟨q1,c,d,f⟩:=h1;exact⟨q1,c,fun b a=>(d b a).elim (l b) .inr,f⟩
theorem bC.aDy(h:bC K' base w s L ro vc vr vn vo vt vu vk vb)(l:∀j (hj:j<L.length),L[j].2.1.isSome=true)(m:ro.isSome=true)(hp:fM 3 w K s.aCL vt vu vk vb)(k:∀b,K b->K' b)(i:∀b,K' b->K b\/base<=b){B:Nat}(f:K' B)(g:¬K B){q:nP}(n:aN q w w')(c:∀b,b≠B->q b):bC K base w' s L ro vc vr vn vo vt vu vk vb:=by
 have d:=h.kept B f;exact(h.aDY l m hp k i).aDR n (fun b a=>c b (fun e=>g (e▸a))) (fun b a=>c b (fun e=>d.2.1 (by rw[<-e,a]))) (fun b a=>c b (fun e=>d.2.2.1 (by rw[<-e,a]))) (fun b a=>c b (fun e=>d.2.2.2.1 (by rw[<-e,a]))) (fun b a=>c b (fun e=>d.2.2.2.2 (by rw[<-e,a])))
  (fun j hj=>⟨fun b a=>c b (fun e=>(h.aDe j hj).1 b a (e▸f)),fun b a=>c b (fun e=>(h.aDe j hj).2 b a (e▸f))⟩)
end
def UF(ok:nP)(a:Sto)(w:World)(e:Ending)(w':World):Prop:=∃(K:nP) (base:Nat) (L:List Mix) (ro:Option Value) (vc vr vn vo vt vu vk vb:Value),e=.returned (.agg (aV a vc vr vn vo vt vu vk vb))/\(∀b,K b->(ok b/\b<w.heap.size)\/w.heap.size<=b)/\w.heap.size<=base/\bC K base w' a L ro vc vr vn vo vt vu vk vb/\Below w.heap.size w w'
def Ut(ok:nP)(base R B:Nat)(O:Obj)(w w':World)(a:Sto):Prop:=∃(K:nP) (L:List Mix) (ro:Option Value) (vc vr vn vo vt vu vk vb:Value),w'.heap[B]? =some (.cells (aV a vc vr vn vo vt vu vk vb) 40 (0,0))/\w'.heap[R]? =some O/\(∀b,K b->(ok b/\b<w.heap.size)\/base<=b)/\bC K base w' a L ro vc vr vn vo vt vu vk vb/\Below w.heap.size w w'
theorem UG{ok K:nP}{base R:Nat}{w wc:World}{a:Sto}{L:List Mix}{ro:Option Value}{vc vr vn vo vt vu vk vb i j n o p q r s t v k l m:Value}(e:bC K base wc a L ro vc vr vn vo vt vu vk vb)(c:∀b,K b->(ok b/\b<w.heap.size)\/base<=b)(h1:w.heap.size<=R)(h2:R<base)(d:Below w.heap.size w wc):
 UF ok a w (.returned (.agg (aV a vc vr vn vo vt vu vk vb))) (((((((((((((wc.setCell ⟨R,0,none⟩ i).setCell ⟨R,1,none⟩ j).setCell ⟨R,2,none⟩ n).setCell ⟨R,3,none⟩ o).setCell ⟨R,4,none⟩ p).setCell ⟨R,5,none⟩ q).setCell ⟨R,6,none⟩ r).setCell ⟨R,7,none⟩ s).setCell ⟨R,8,none⟩ t).setCell ⟨R,9,none⟩ v).setCell ⟨R,10,none⟩ k).setCell ⟨R,11,none⟩ l).setCell ⟨R,12,none⟩ m):=by
 have g:¬K R:=fun h=>(c R h).elim (fun h=>qA h.2) (fun h=>by omega)
 refine⟨K,base,L,ro,vc,vr,vn,vo,vt,vu,vk,vb,rfl,fun b f=>(c b f).imp id (fun h=>by omega),qo,?_,?_⟩
 .repeat (refine bC.off ?_ g h2)
  exact e
 .repeat (refine Below.setCell ?_ h1 _)
  exact d
theorem BI{K:nP}{base:Nat}{w w':World}{s:Sto}{L:List Mix}{ro:Option Value}{g n i:Nat}{vr vn vo vt vu vk vb:Value}{k:Nat}(c:bC K base w s L ro (.slice (some ⟨g,0,none⟩) n i) vr vn vo vt vu vk vb)(d:k<L.length){v:Value}(f:L[k].2.2=some v){h:tU}{log:List tU}(r:L[k].1.log=log)(y:log.length<=900000)(hp:MP mS 3 54 base v (log++[h]) ⟨g,k * 5+4,none⟩ w w'):
 ∃v',bC K base w' {s with aCK:=s.aCK.set k {L[k].1 with log:=L[k].1.log++[h]}} (L.set k ({L[k].1 with log:=L[k].1.log++[h]},L[k].2.1,some v')) ro (.slice (some ⟨g,0,none⟩) n i) vr vn vo vt vu vk vb/\aN (fun b=>b<base\/K b) w w':=by
 subst r;obtain⟨A,l,w1,m,j,o,rfl⟩:=hp;have t:=(kE c.aCK d).2 v f;have x:=c.aCK.lt g rfl;have p:∀b,(Value.slice A (L[k].1.log++[h]).length l).ownBlock=some b->v.ownBlock=some b\/w.heap.size<=b:=fun b a=>by
  rcases o with h1|⟨q,h1,h2⟩
  .exact .inl (h1▸a)
  .rw[h1] at a;injection a with a;exact .inr (a▸h2)
 have hlen:(L[k].1.log++[h]).length<=1000000:=by rw[aL,List.length_singleton];omega
 exact⟨_,c.log d f j m p hlen,((cV j).mono (fun b _ a e=>a.elim (fun h=>qA ((t.1.lt b e.symm).1)) (fun h=>(c.aDe k d).2 b (cM.2 ⟨v,f,e.symm⟩) h))).trans ((aI _).mono (fun b _ a e=>a.elim (fun h=>by omega) (fun h=>(c.kept b h).2.1 (by rw[e];rfl))))⟩
theorem QCC{p:Prop}(h:p:=by
 rw[hR];simp only[aL,List.length_take,Array.length_toList,Builtin.zeroCells,Array.size_map,Array.size_range,h6];omega):p:=h
theorem QCs{p:Prop}(h:p:=by
 rw[hR,List.append_assoc,List.take_append_of_le_length (by rw[List.length_take];omega)];exact List.take_of_length_le (by rw[List.length_take];omega)):p:=h
theorem QBE{p:Prop}(h:p:=by
 have ha:(⟨g,0,none⟩:Addr).add j=⟨g,0+j,none⟩:=by unfold Addr.add;split<;>simp_all
 rw[ha,Nat.zero_add];rw[List.getElem?_take] at hj;split at hj
 .show w.cell? ⟨g,j,none⟩=some v;simp only[World.cell?,hg'];simpa using hxc j v hj
 .cases hj):p:=h
theorem QBm{p:Prop}(h:p:=by
 subst h1 h2
 apply List.ext_getElem?
 intro j;simp only[List.getElem?_append,List.getElem?_take,List.getElem?_drop,aL,List.length_take,List.length_drop,aL]
 repeat' split
 all_goals (first|rfl|omega|(congr 1;omega)|skip)
 all_goals (first|(rw[List.getElem?_eq_none qo])|(rw[List.getElem?_eq_none qo,List.getElem?_eq_none qo])|skip)):p:=h
theorem QBi{p:Prop}(h:p:=by
 rw[h8] at h9;refine⟨some ⟨g,0,none⟩,c,rfl,⟨?_,.inr ⟨g,c,_,rfl,hbg,HW5.o,hroom,hcm,?_,?_⟩⟩,hgr,.inl rfl⟩
 .rw[<-h9,List.length_take];simp only[aL,List.length_take,List.length_drop];have:=HL1.o;have:=HCS.o;omega
 .simp only[List.size_toArray,aL,List.length_take,List.length_drop];have:=HL1.o;have:=HCS.o;omega
 .rw[List.toList_toArray,e1];exact h9):p:=h
theorem QAV{p:Prop}(h:p:=by
 have hi1:i<9223372036854775807:=qo;go_enter func106,ntmps106;go_wp2_with (at_builtin;refine fQ zP rfl (.tmp 23) (.tmp 24) rfl base _ i xs rfl HO.o (some ⟨vb,0,none⟩) 1 vc CS rfl (qA HC.o) HSL.o H1.o (by unfold maxLen;omega) qo hbase ?_;intro A' c' w4 hw4 hg4 hat4;have H4:=aA hw4;have H5:=aA hg4;have H6:=aA hat4;clear hw4 hg4 hat4)
 go_ret;unfold pK;refine⟨A',c',rfl,?_,H5.o,H6.o⟩;have hl:xs.length=i * 5:=HO.o.1;rw[List.take_of_length_le qo,List.drop_of_length_le qo,List.append_nil];exact H4.o):p:=h
theorem QAU{p:Prop}(h:p:=by
 have hi1:i<9223372036854775807:=qo;go_enter func167,ntmps167;go_wp2_with (at_builtin;refine fQ wX rfl (.tmp 23) (.tmp 24) rfl base _ i xs rfl HO.o (some ⟨vb,0,none⟩) 1 vc CS rfl (qA HC.o) HSL.o H1.o (by unfold maxLen;omega) qo hbase ?_;intro A' c' w4 hw4 hg4 hat4;have H4:=aA hw4;have H5:=aA hg4;have H6:=aA hat4;clear hw4 hg4 hat4)
 go_ret;unfold pK;refine⟨A',c',rfl,?_,H5.o,H6.o⟩;have hl:xs.length=i * 4:=HO.o.1;rw[List.take_of_length_le qo,List.drop_of_length_le qo,List.append_nil];exact H4.o):p:=h
theorem QAC{p:Prop}(h:p:=by
 rw[HRT.o] at h9;refine⟨some ⟨w.heap.size,0,none⟩,G,rfl,⟨?_,.inr ⟨w.heap.size,G,_,rfl,hbase,HW6.o,HGn.o,HGm.o,?_,?_⟩⟩,?_,.inr rfl⟩
 .rw[<-h9,List.length_take];simp only[aL,List.length_take,List.length_drop];have:=HL1.o;have:=HDL.o;have:=HXL.o;have:=HGn.o;omega
 .simp only[List.size_toArray,aL,List.length_take,List.length_drop];have:=HL1.o;have:=HDL.o;have:=HXL.o;have:=HGn.o;omega
 .rw[List.toList_toArray,e1,e2];exact h9
 .have hB:=HW1B.o;have h5:=HG5.o;have h6:=HG6.o;refine⟨h6.os.trans (h5.os.trans hB.os),h6.tape.trans (h5.tape.trans hB.tape),h6.output.trans (h5.output.trans hB.output),lT hB.size (lT h5.size h6.size),fun k hk _=> ?_⟩;have h51:=h5.block k (lL hk hB.size) (fun e=>by injection e;omega);exact(h6.block k (lL hk (lT hB.size h5.size)) (fun e=>by injection e;omega)).trans (h51.trans (hB.block k hk))):p:=h
section
variable {P:Program}
theorem If(w:World)(d B ty elem:TypeId)(s g o c m:Nat)(a:Addr)(l A:Nat)(cur:Array Value)(t:TypeId)(k:Nat)(cs:List Value)
 (hu:P.underlying d=some (.slice elem))(f:(P.info? elem).map (·.size)=some s)
 (p:w.heap[g]? =some (.cells cur t (0,0)))(r:Nat.min l c=k)(x:cs.length=k * s)
 (y:∀j v,cs[j]? =some v->w.cell? (a.add j)=some v)(n:o+cs.length<=cur.size)(h1:∀v∈cs,v.oneCell'=true):
 (Builtin.copy_ #[d,B] ty #[.slice (some ⟨g,o,none⟩) c m,.slice (some a) l A]).run P w=
   .ok (goInt k) (w.setRow g (cur.toList.take o++cs++cur.toList.drop (o+cs.length)).toArray):=by
 have e:=run_loadCells_list (P:=P) w a cs y;have z:=run_storeCells_at P g o t cs 0 cur w p (by simpa using n) h1
 cases b:P.info? elem with
 |none=>simp[b] at f
 |some i=>
  have q:i.size=s:=by simpa [b] using f
  rw[x] at e;simp[Builtin.copy_,run_underlying hu,Builtin.lenOf,Builtin.firstCells,sizeOf,typeInfo,b,q,r,e,z]
theorem UH{w:World}(g:Nat)(cs:Array Value):w.grownBy (w.setRow g cs) (some g):=⟨rfl,rfl,rfl,by simp[World.setRow],fun k _ a=>setRow_other w g k cs (fun e=>a (by rw[e]))⟩
theorem UI{w:World}{o:Oper}{a:Act}{K:Act->World->Prop}{Q:Exit->Act->World->Prop}(d x:Operand)(f q:TypeId)
 (D:o.op=.call {callee:= .builtin .copy,args:=#[d,x],argTypes:=#[f,q]})(elem:TypeId)(s:Nat)(hu:P.underlying f=some (.slice elem))(G:(P.info? elem).map (·.size)=some s)
 (g b off i e m b' r c l p:Nat)(y:a.eval d=.slice (some ⟨b,i,none⟩) e m)(J:a.eval x=.slice (some ⟨b',c,none⟩) l p)(E:i=off)(H:c=r)(A:b=g)
 (cur:List Value)(t:TypeId)(n:w.heap[g]? =some (.cells cur.toArray t (0,0)))(k:Nat)(cs:List Value)(B:Nat.min l e=k)(C:cs.length=k * s)
 (I:∀j v,cs[j]? =some v->w.cell? ⟨b',r+j,none⟩=some v)(z:off+cs.length<=cur.length)(h1:∀v∈cs,v.oneCell'=true)
 (h:∀w',Hid (w'.heap[g]? =some (.cells (cur.take off++cs++cur.drop (off+cs.length)).toArray t (0,0)))->w.grownBy w' (some g)->K (a.put o.dst (goInt k)) w'):o.wp P a w K Q:=by
 subst E H A;have F:=If (P:=P) w f q o.type elem s b i e m ⟨b',c,none⟩ l p cur.toArray t k cs hu G n B C
  (fun j v hj=>by
    have ha:(⟨b',c,none⟩:Addr).add j=⟨b',c+j,none⟩:=by unfold Addr.add;split<;>simp_all
    rw[ha];exact I j v hj) (by simpa using z) h1
 unfold Oper.wp execOp;simp only[D,resolve,invoke,builtin,Sem.run_bind,Sem.run_pure,Result.andThen_ok,List.map_toArray,List.map_cons,List.map_nil,y,J,F];exact h _ (setRow_heap w b _ _ t _ n) (UH b _)
theorem rX{w:World}{ops:Array Oper}{rest:List Oper}{o:Oper}{a:Act}{Q:Exit->Act->World->Prop}(B:o.guard=none)(d x:Operand)(c q:TypeId)
 (F:o.op=.call {callee:= .builtin .copy,args:=#[d,x],argTypes:=#[c,q]})(elem:TypeId)(s:Nat)(hu:P.underlying c=some (.slice elem))(H:(P.info? elem).map (·.size)=some s)
 (g e off f b n b' l m i p:Nat)(y:a.eval d=.slice (some ⟨e,f,none⟩) b n)(K:a.eval x=.slice (some ⟨b',m,none⟩) i p)(G:f=off)(I:m=l)(C:e=g)
 (cur:List Value)(t:TypeId)(A:w.heap[g]? =some (.cells cur.toArray t (0,0)))(k:Nat)(cs:List Value)(D:Nat.min i b=k)(E:cs.length=k * s)
 (J:∀j v,cs[j]? =some v->w.cell? ⟨b',l+j,none⟩=some v)(z:off+cs.length<=cur.length)(h1:∀v∈cs,v.oneCell'=true)
 (h:∀w',Hid (w'.heap[g]? =some (.cells (cur.take off++cs++cur.drop (off+cs.length)).toArray t (0,0)))->w.grownBy w' (some g)->wpList P ops Q rest (a.put o.dst (goInt k)) w'):wpList P ops Q (o::rest) a w:=
 wpList_plain B fun _ r=>UI d x c q F elem s hu H g e off f b n b' l m i p y K G I C cur t A k cs D E J z h1 fun w' h2 h3=>r _ _ (h w' h2 h3)
theorem uZ{w:World}{ops:Array Oper}{o:Oper}{a:Act}{K:Act->World->Prop}{Q:Exit->Act->World->Prop}{E:Prop}(A:o.guard=none)(d x:Operand)(c q:TypeId)
 (F:o.op=.call {callee:= .builtin .copy,args:=#[d,x],argTypes:=#[c,q]})(elem:TypeId)(s:Nat)(hu:P.underlying c=some (.slice elem))(H:(P.info? elem).map (·.size)=some s)
 (g e off f b n b' l m i p:Nat)(r:a.eval d=.slice (some ⟨e,f,none⟩) b n)(L:a.eval x=.slice (some ⟨b',m,none⟩) i p)(G:f=off)(I:m=l)(B:e=g)
 (cur:List Value)(t:TypeId)(z:w.heap[g]? =some (.cells cur.toArray t (0,0)))(k:Nat)(cs:List Value)(C:Nat.min i b=k)(D:cs.length=k * s)
 (J:∀j v,cs[j]? =some v->w.cell? ⟨b',l+j,none⟩=some v)(y:off+cs.length<=cur.length)(h1:∀v∈cs,v.oneCell'=true)
 (h:∀w',Hid (w'.heap[g]? =some (.cells (cur.take off++cs++cur.drop (off+cs.length)).toArray t (0,0)))->w.grownBy w' (some g)->K (a.put o.dst (goInt k)) w'):if Region.wanted o (yielded ops a.tmps)=true then Oper.wp P o a w K Q else E:=by
 rw[iP (by simp[Region.wanted,A])];exact UI d x c q F elem s hu H g e off f b n b' l m i p r L G I B cur t z k cs C D J y h1 h
end
theorem OO{C D cs:List Value}{a s L:Nat}(hC:L+s<=C.length)(c:D.length=L - a)(ha:a<=L)(d:cs.length=s){C1 b:List Value}(h1:C1=C.take (a+s)++D++C.drop (a+s+D.length))(h2:b=C1.take a++cs++C1.drop (a+cs.length)):b.take (L+s)=C.take a++cs++D:=by
 exact QBm
theorem UJ{C D cs:List Value}{a s L:Nat}(hC:L+s<=C.length)(c:D.length=L - a)(ha:a<=L)(d:cs.length=s){C1 b:List Value}(h1:C1=C.take a++cs++C.drop (a+cs.length))(h2:b=C1.take (a+s)++D++C1.drop (a+s+D.length)):b.take (L+s)=C.take a++cs++D:=by
 exact QBm
def pK(base:Nat)(e:TypeId)(s n i:Nat)(v:Value)(xs cs:List Value)(w:World)(o:Ending)(w':World):Prop:=∃A a,o=.returned (.slice A (n+1) a)/\w'.ownsRow base e s (.slice A (n+1) a) (n+1) (xs.take (i * s)++cs++xs.drop (i * s))/\w.grownBy w' v.ownBlock/\((Value.slice A (n+1) a).ownBlock=v.ownBlock\/(Value.slice A (n+1) a).ownBlock=some w.heap.size)
theorem QO(w:World)(base:Nat)(a:oD)(n c i:Nat)(xs CS:List Value)(vb vc:Nat)(ty:TypeId)
 (f:w.ownsRow base 196 4 (.slice a n c) n xs)(hi:i<=n)(hn:n<=1000000)(hbase:base<=w.heap.size)(b:w.heap[vb]? =some (.cells CS.toArray ty (0,0)))(d:CS.length=4)
 (h1:∀u∈CS,u.oneCell'=true)(x:∀u∈xs,u.oneCell'=true)(an:(Value.slice a n c).ownBlock≠some vb):
 Calls prog 167 #[.slice a n c,.int .i64 i,.slice (some ⟨vb,0,none⟩) 1 vc] w (pK base 196 4 n i (.slice a n c) xs CS w):=by
 have Y:=aD b;have H:Sl w w.heap.size (some ⟨vb,0,none⟩) CS:=fun _=>⟨vb,0,rfl,Y,fun j u hu=>by simp only[World.cell?,b,Nat.zero_add];simpa using hu⟩
 by_cases bc:i=n
 .subst bc;obtain⟨HO,HSL,HV,H1,HC⟩:=gC f H b h1 d;clear f H b h1 x an d;by_cases W:c=i
  .have bb:=W.symm;clear W;subst bb;exact QAU
  .skip
   exact QAU
 .have bo:i<n:=qo
  rcases f.2 with ⟨e1,e2⟩|⟨g,cap,cur,e1,hbg,hg,bp,hcm,ag,al⟩
  .omega
  injection e1 with e1 e2 e3;subst e1 e3;have aq:¬vb=g:=fun e=>an (by rw[e];rfl)
  have q:=f.1;obtain⟨C,hC⟩:=xE cur.toList;have hg':w.heap[g]? =some (.cells C.toArray 196 (0,0)):=by rw[hC,Array.toArray_toList];exact hg
  have y:C.length=c * 4:=by rw[hC,Array.length_toList];exact ag
  have J:C.take (n * 4)=xs:=by rw[hC];exact al
  have hxc:∀j u,xs[j]? =some u->C[j]? =some u:=fun j u hu=>by
   rw[<-J,List.getElem?_take] at hu;split at hu
   .exact hu
   .cases hu
  clear hC hg al ag;have bm:c<=9223372036854775807:=by unfold maxLen at hcm;omega
  have ai:=aD hg';have F:(xs.drop (i * 4)).length=(n - i) * 4:=by rw[List.length_drop,q,Nat.sub_mul]
  have E:∀u∈xs.drop (i * 4),u.oneCell'=true:=fun u hu=>x u (List.mem_of_mem_drop hu)
  have I:(prog.info? 196).map (·.size)=some 4:=by obtain⟨i0,z0,h2,_,h4,_⟩:=wX.info;rw[h2];simp[h4]
  have m:=wX.under;have K:∀j u,CS[j]? =some u->w.cell? ⟨vb,0+j,none⟩=some u:=fun j u hu=>by simp only[World.cell?,b,Nat.zero_add];simpa using hu
  have bs:IntKind.i64.wrap ((i:Int)+1)=(i:Int)+1:=by rw[IntKind.wrap_i64];omega
  have bh:(0:Int)<=(i:Int)+1:=qo;have bn:i<=n:=qo;have br:((i:Int)+1).toNat=i+1:=qo;have bq:¬((i:Int)=(n:Int)):=qo;have bk:(i:Int)<=(n:Int)+1:=qo;by_cases hroom:n+1<=c
  .have bj:¬(c=i+1):=qo;have bl:¬(c=i):=qo;have bd:∀Z S,(callFunc 212 #[.slice (some ⟨vb,0,none⟩) 1 vc,.slice (some ⟨g,(i+1) * 4,none⟩) Z S]).run prog w=.ok (.value (.bool false)) w:=fun Z S=>by
    rw[run_callFunc_extern func212 (by kernel_rfl) (by kernel_rfl) (by kernel_rfl) (e:=Extern.SlicesOverlaps.overlaps #[49,49] #[4]) (by kernel_rfl),
     Lib.run_overlaps_apart w 49 4 196 m 4 (by obtain⟨i0,z0,h2,_,h4,_⟩:=wX.info;intro w9;simp[sizeOf,typeInfo,h2,h4]) ⟨vb,0,none⟩ ⟨g,(i+1) * 4,none⟩ 1 vc Z S aq ty 196 CS.length (c * 4)
      (by simp[World.shape?,b]) (by simp[World.shape?,hg',y]) qo (aR b 0) (aR b _)]
    rfl
   have r:Hid (∀j u,(xs.drop (i * 4))[j]? =some u->w.cell? ⟨g,i * 4+j,none⟩=some u):=aA (fun j u hu=>by rw[List.getElem?_drop] at hu;simp only[World.cell?,hg'];simpa using hxc _ u hu);obtain⟨N,HV,HG,HX,O,H1,ay,ax⟩:=RS y b hg' hxc E h1 K J;obtain⟨HCS,HDL,HXL⟩:=aY d F q;clear f b hg' y hxc E h1 K J d F q H x;go_enter func167,ntmps167;go_wp2_with (simp only[bd])
   go_region_law (refine uZ rfl _ _ _ _ rfl 196 4 m I g g ((i+1) * 4) ((i+1) * 4) (n - i) (c - (i+1)) g (i * 4) (i * 4) (n+1 - i) (c - i) (by simp[Act.eval,Act.put]) (by simp[Act.eval,Act.put]) rfl rfl rfl C 196 HG.o (n - i) (xs.drop (i * 4)) (by simp only[Nat.min_def];split<;>omega) HDL.o r.o (qD HDL.o N.o) O.o ?_;intro w4 hw4 hg4)
   obtain⟨C1,T⟩:=xE (C.take ((i+1) * 4)++xs.drop (i * 4)++C.drop ((i+1) * 4+(xs.drop (i * 4)).length));have a7:Hid (w4.heap[g]? =some (.cells C1.toArray 196 (0,0))):=aA (by rw[T];exact hw4.o);have aa:=aA T;have l:=aA hg4;have a1:Hid (∀j u,CS[j]? =some u->w4.cell? ⟨vb,0+j,none⟩=some u):=aA (fun j u hu=>(World.cell?_of_block (a:=⟨vb,0+j,none⟩) (hg4.block vb Y (fun e=>aq (by injection e)))).trans (ay.o j u hu));clear hw4 hg4 T;have HL1:Hid (C1.length=c * 4):=aA (by rw[aa.o];simp only[aL,List.length_take,List.length_drop];have:=N.o;have:=HXL.o;omega);go_wp2_with (refine rX rfl (.tmp 80) (.tmp 81) _ _ rfl 196 4 m I g _ (i * 4) _ _ _ _ 0 _ _ _ rfl rfl rfl rfl rfl C1 196 a7.o 1 CS (by simp only[Nat.min_def];split<;>omega) (qA HCS.o) a1.o (qD HL1.o HCS.o) H1.o ?_;intro M p o;have HW5:=aA p.o;have HG5:=aA o;clear p o)
   go_ret;unfold pK;have hgr:=(⟨l.o.os,l.o.tape,l.o.output,l.o.size,l.o.block⟩:w.grownBy w4 (some g)).trans HG5.o;have e1:(n+1) * 4=n * 4+4:=qo;have e2:(i+1) * 4=i * 4+4:=qo;have h9:=OO (C:=C) (D:=xs.drop (i * 4)) (cs:=CS) (a:=i * 4) (s:=4) (L:=n * 4) (qA N.o) (qA HDL.o) qo HCS.o (C1:=C1) (by rw[aa.o,e2]) rfl;have h8:C.take (i * 4)=xs.take (i * 4):=by rw[<-ax.o,List.take_take,Nat.min_eq_left qo]
   exact QBi
  .have W:¬(c=i):=qo;obtain⟨i0,z0,h2,h3,h4,h5,h6⟩:=wX.info;have hold:(Builtin.firstCells i0.size i (.slice (some ⟨g,0,none⟩) i c)).run prog w.drew=.ok (xs.take (i * 4)).toArray w.drew:=by
    rw[h4];refine run_firstCells_some w.drew 4 i ⟨g,0,none⟩ i c (xs.take (i * 4)) (by rw[List.length_take];omega) (fun j v hj=> ?_);exact QBE
   have X:i+(n+1 - i)=n+1:=qo;have aj:(n:Int)+1 - (i:Int)=((n+1 - i:Nat):Int):=qo;obtain⟨G,z⟩:=xE (grownCap w (n+1) c 196);obtain⟨R,hR⟩:∃R:List Value,R=xs.take (i * 4)++(Builtin.zeroCells z0.cells (n+1 - i)).toList++(Builtin.zeroCells z0.cells (G - (n+1))).toList:=⟨_,rfl⟩;obtain⟨t,B⟩:=xE (w.drew.alloc (.cells R.toArray 196));have ak:∀ty,(Builtin.append_ #[49,3] ty #[.slice (some ⟨g,0,none⟩) i c,.int .i64 ((n:Int)+1 - (i:Int))]).run prog w=.ok (.slice (some ⟨w.heap.size,0,none⟩) (n+1) G) t:=fun ty=>by
    have h:=Lib.run_append_grow_zeros w 49 3 ty 196 i0 z0 .i64 .i64 wX.under (by kernel_rfl) h2 h3 (some ⟨g,0,none⟩) i c (xs.take (i * 4)) hold (n+1 - i) qo qo qo qo (by rw[h5];omega) (by rw[h5,X];exact growslice_fits qo qo);rw[X,<-z] at h;rw[aj,h,B,hR]
    congr 3
    simp
   have ba:n+1<=G:=by rw[z];exact grownCap_ge w _ _ _
   have U:G<=maxLen:=by rw[z];exact grownCap_le_maxLen w (n+1) c _ (by unfold maxLen;omega)
   have ab:R.length=G * 4:=by
    exact QCC
   have ae:t.heap[w.heap.size]? =some (.cells R.toArray 196 (0,0)):=by rw[B];exact heap_alloc_new w.drew _
   have V:Below w.heap.size w t:=by
    have h:=aB w.drew (.cells R.toArray 196);rw[B];exact⟨h.os,h.tape,h.output,h.size,h.block⟩
   have ad:R.take (i * 4)=xs.take (i * 4):=by
    exact QCs
   have ao:∀j u,CS[j]? =some u->t.cell? ⟨vb,0+j,none⟩=some u:=fun j u hu=>(World.cell?_of_block (a:=⟨vb,0+j,none⟩) (V.block vb Y)).trans (K j u hu)
   have bf:¬(G=i):=qo;have bg:¬(G=i+1):=qo;have be:G<=9223372036854775807:=by unfold maxLen at U;omega
   have r:Hid (∀j u,(xs.drop (i * 4))[j]? =some u->w.cell? ⟨g,i * 4+j,none⟩=some u):=aA (fun j u hu=>by rw[List.getElem?_drop] at hu;simp only[World.cell?,hg'];simpa using hxc _ u hu);obtain⟨av,HGn,HGm,P,a6,HW1B,HRT,az⟩:=RS ak ba U ab ae V ad ao;obtain⟨O,H1,HCS,HDL,HXL⟩:=gC E h1 d F q;clear f b hg' y hxc E h1 K J d F q H x hold X aj z hR B ak U ab ae V ad ao h2 h3 h4 h5 h6;go_enter func167,ntmps167;go_wp2_with (first
    |(at_builtin;refine Lib.wpList_append_run _ rfl _ _ _ _ rfl _ _ rfl rfl _ _ (av.o _) ?_)
    |(refine rX rfl (.tmp 43) (.tmp 44) _ _ rfl 196 4 m I w.heap.size _ (i * 4) _ _ _ _ 0 _ _ _ rfl rfl rfl rfl rfl R 196 a6.o 1 CS (by simp only[Nat.min_def];split<;>omega) (qA HCS.o) az.o (qF P.o HCS.o HGn.o) H1.o ?_;intro M p o;have HW5:=aA p.o;have HG5:=aA o;clear p o))
   obtain⟨Q,A⟩:=xE (R.take (i * 4)++CS++R.drop (i * 4+CS.length));have au:=aA A;have a8:Hid (M.heap[w.heap.size]? =some (.cells Q.toArray 196 (0,0))):=aA (by rw[A];exact HW5.o);have af:M.heap[g]? =w.heap[g]? :=(HG5.o.block g (lL ai HW1B.o.size) (fun e=>by injection e;omega)).trans (HW1B.o.block g ai);have aw:Hid (∀j u,(xs.drop (i * 4))[j]? =some u->M.cell? ⟨g,i * 4+j,none⟩=some u):=aA (fun j u hu=>(World.cell?_of_block (a:=⟨g,i * 4+j,none⟩) af).trans (r.o j u hu));have HL1:Hid (Q.length=G * 4):=aA (by rw[A];simp only[aL,List.length_take,List.length_drop];have:=P.o;have:=HCS.o;have:=HGn.o;omega);clear r af A HW5;go_region_law (refine uZ rfl _ _ _ _ rfl 196 4 m I w.heap.size w.heap.size ((i+1) * 4) ((i+1) * 4) (n - i) (G - (i+1)) g (i * 4) (i * 4) (n - i) (c - i) (by simp[Act.eval,Act.put]) (by simp[Act.eval,Act.put]) rfl rfl rfl Q 196 a8.o (n - i) (xs.drop (i * 4)) (by simp only[Nat.min_def];split<;>omega) HDL.o aw.o (qF HDL.o HL1.o HGn.o) O.o ?_;intro w6 ar ah;have HW6:=aA ar.o;have HG6:=aA ah;clear ar ah)
   go_wp2;go_ret;unfold pK;have e1:(n+1) * 4=n * 4+4:=qo;have e2:(i+1) * 4=i * 4+4:=qo;have h9:=UJ (C:=R) (D:=xs.drop (i * 4)) (cs:=CS) (a:=i * 4) (s:=4) (L:=n * 4) (qD P.o HGn.o) (qA HDL.o) qo HCS.o au.o rfl;exact QAC
theorem QQ(w:World)(base:Nat)(a:oD)(n c i:Nat)(xs CS:List Value)(vb vc:Nat)(ty:TypeId)
 (f:w.ownsRow base 52 5 (.slice a n c) n xs)(hi:i<=n)(hn:n<=1000000)(hbase:base<=w.heap.size)(b:w.heap[vb]? =some (.cells CS.toArray ty (0,0)))(d:CS.length=5)
 (h1:∀u∈CS,u.oneCell'=true)(x:∀u∈xs,u.oneCell'=true)(an:(Value.slice a n c).ownBlock≠some vb):
 Calls prog 106 #[.slice a n c,.int .i64 i,.slice (some ⟨vb,0,none⟩) 1 vc] w (pK base 52 5 n i (.slice a n c) xs CS w):=by
 have Y:=aD b;have H:Sl w w.heap.size (some ⟨vb,0,none⟩) CS:=fun _=>⟨vb,0,rfl,Y,fun j u hu=>by simp only[World.cell?,b,Nat.zero_add];simpa using hu⟩
 by_cases bc:i=n
 .subst bc;obtain⟨HO,HSL,HV,H1,HC⟩:=gC f H b h1 d;clear f H b h1 x an d;by_cases W:c=i
  .have bb:=W.symm;clear W;subst bb;exact QAV
  .skip
   exact QAV
 .have bo:i<n:=qo
  rcases f.2 with ⟨e1,e2⟩|⟨g,cap,cur,e1,hbg,hg,bp,hcm,ag,al⟩
  .omega
  injection e1 with e1 e2 e3;subst e1 e3;have aq:¬vb=g:=fun e=>an (by rw[e];rfl)
  have q:=f.1;obtain⟨C,hC⟩:=xE cur.toList;have hg':w.heap[g]? =some (.cells C.toArray 52 (0,0)):=by rw[hC,Array.toArray_toList];exact hg
  have y:C.length=c * 5:=by rw[hC,Array.length_toList];exact ag
  have J:C.take (n * 5)=xs:=by rw[hC];exact al
  have hxc:∀j u,xs[j]? =some u->C[j]? =some u:=fun j u hu=>by
   rw[<-J,List.getElem?_take] at hu;split at hu
   .exact hu
   .cases hu
  clear hC hg al ag;have bm:c<=9223372036854775807:=by unfold maxLen at hcm;omega
  have ai:=aD hg';have F:(xs.drop (i * 5)).length=(n - i) * 5:=by rw[List.length_drop,q,Nat.sub_mul]
  have E:∀u∈xs.drop (i * 5),u.oneCell'=true:=fun u hu=>x u (List.mem_of_mem_drop hu)
  have I:(prog.info? 52).map (·.size)=some 5:=by obtain⟨i0,z0,h2,_,h4,_⟩:=zP.info;rw[h2];simp[h4]
  have m:=zP.under;have K:∀j u,CS[j]? =some u->w.cell? ⟨vb,0+j,none⟩=some u:=fun j u hu=>by simp only[World.cell?,b,Nat.zero_add];simpa using hu
  have bs:IntKind.i64.wrap ((i:Int)+1)=(i:Int)+1:=by rw[IntKind.wrap_i64];omega
  have bh:(0:Int)<=(i:Int)+1:=qo;have bn:i<=n:=qo;have br:((i:Int)+1).toNat=i+1:=qo;have bq:¬((i:Int)=(n:Int)):=qo;have bk:(i:Int)<=(n:Int)+1:=qo;by_cases hroom:n+1<=c
  .have bj:¬(c=i+1):=qo;have bl:¬(c=i):=qo;have bd:∀Z S,(callFunc 164 #[.slice (some ⟨vb,0,none⟩) 1 vc,.slice (some ⟨g,(i+1) * 5,none⟩) Z S]).run prog w=.ok (.value (.bool false)) w:=fun Z S=>by
    rw[run_callFunc_extern func164 (by kernel_rfl) (by kernel_rfl) (by kernel_rfl) (e:=Extern.SlicesOverlaps.overlaps #[28,28] #[4]) (by kernel_rfl),
     Lib.run_overlaps_apart w 28 4 52 m 5 (by obtain⟨i0,z0,h2,_,h4,_⟩:=zP.info;intro w9;simp[sizeOf,typeInfo,h2,h4]) ⟨vb,0,none⟩ ⟨g,(i+1) * 5,none⟩ 1 vc Z S aq ty 52 CS.length (c * 5)
      (by simp[World.shape?,b]) (by simp[World.shape?,hg',y]) qo (aR b 0) (aR b _)]
    rfl
   have r:Hid (∀j u,(xs.drop (i * 5))[j]? =some u->w.cell? ⟨g,i * 5+j,none⟩=some u):=aA (fun j u hu=>by rw[List.getElem?_drop] at hu;simp only[World.cell?,hg'];simpa using hxc _ u hu);obtain⟨N,HV,HG,HX,O,H1,ay,ax⟩:=RS y b hg' hxc E h1 K J;obtain⟨HCS,HDL,HXL⟩:=aY d F q;clear f b hg' y hxc E h1 K J d F q H x;go_enter func106,ntmps106;go_wp2_with (simp only[bd])
   go_region_law (refine uZ rfl _ _ _ _ rfl 52 5 m I g g ((i+1) * 5) ((i+1) * 5) (n - i) (c - (i+1)) g (i * 5) (i * 5) (n+1 - i) (c - i) (by simp[Act.eval,Act.put]) (by simp[Act.eval,Act.put]) rfl rfl rfl C 52 HG.o (n - i) (xs.drop (i * 5)) (by simp only[Nat.min_def];split<;>omega) HDL.o r.o (qD HDL.o N.o) O.o ?_;intro w4 hw4 hg4)
   obtain⟨C1,T⟩:=xE (C.take ((i+1) * 5)++xs.drop (i * 5)++C.drop ((i+1) * 5+(xs.drop (i * 5)).length));have a7:Hid (w4.heap[g]? =some (.cells C1.toArray 52 (0,0))):=aA (by rw[T];exact hw4.o);have aa:=aA T;have l:=aA hg4;have a1:Hid (∀j u,CS[j]? =some u->w4.cell? ⟨vb,0+j,none⟩=some u):=aA (fun j u hu=>(World.cell?_of_block (a:=⟨vb,0+j,none⟩) (hg4.block vb Y (fun e=>aq (by injection e)))).trans (ay.o j u hu));clear hw4 hg4 T;have HL1:Hid (C1.length=c * 5):=aA (by rw[aa.o];simp only[aL,List.length_take,List.length_drop];have:=N.o;have:=HXL.o;omega);go_wp2_with (refine rX rfl (.tmp 80) (.tmp 81) _ _ rfl 52 5 m I g _ (i * 5) _ _ _ _ 0 _ _ _ rfl rfl rfl rfl rfl C1 52 a7.o 1 CS (by simp only[Nat.min_def];split<;>omega) (qA HCS.o) a1.o (qD HL1.o HCS.o) H1.o ?_;intro M p o;have HW5:=aA p.o;have HG5:=aA o;clear p o)
   go_ret;unfold pK;have hgr:=(⟨l.o.os,l.o.tape,l.o.output,l.o.size,l.o.block⟩:w.grownBy w4 (some g)).trans HG5.o;have e1:(n+1) * 5=n * 5+5:=qo;have e2:(i+1) * 5=i * 5+5:=qo;have h9:=OO (C:=C) (D:=xs.drop (i * 5)) (cs:=CS) (a:=i * 5) (s:=5) (L:=n * 5) (qA N.o) (qA HDL.o) qo HCS.o (C1:=C1) (by rw[aa.o,e2]) rfl;have h8:C.take (i * 5)=xs.take (i * 5):=by rw[<-ax.o,List.take_take,Nat.min_eq_left qo]
   exact QBi
  .have W:¬(c=i):=qo;obtain⟨i0,z0,h2,h3,h4,h5,h6⟩:=zP.info;have hold:(Builtin.firstCells i0.size i (.slice (some ⟨g,0,none⟩) i c)).run prog w.drew=.ok (xs.take (i * 5)).toArray w.drew:=by
    rw[h4];refine run_firstCells_some w.drew 5 i ⟨g,0,none⟩ i c (xs.take (i * 5)) (by rw[List.length_take];omega) (fun j v hj=> ?_);exact QBE
   have X:i+(n+1 - i)=n+1:=qo;have aj:(n:Int)+1 - (i:Int)=((n+1 - i:Nat):Int):=qo;obtain⟨G,z⟩:=xE (grownCap w (n+1) c 52);obtain⟨R,hR⟩:∃R:List Value,R=xs.take (i * 5)++(Builtin.zeroCells z0.cells (n+1 - i)).toList++(Builtin.zeroCells z0.cells (G - (n+1))).toList:=⟨_,rfl⟩;obtain⟨t,B⟩:=xE (w.drew.alloc (.cells R.toArray 52));have ak:∀ty,(Builtin.append_ #[28,3] ty #[.slice (some ⟨g,0,none⟩) i c,.int .i64 ((n:Int)+1 - (i:Int))]).run prog w=.ok (.slice (some ⟨w.heap.size,0,none⟩) (n+1) G) t:=fun ty=>by
    have h:=Lib.run_append_grow_zeros w 28 3 ty 52 i0 z0 .i64 .i64 zP.under (by kernel_rfl) h2 h3 (some ⟨g,0,none⟩) i c (xs.take (i * 5)) hold (n+1 - i) qo qo qo qo (by rw[h5];omega) (by rw[h5,X];exact growslice_fits qo qo);rw[X,<-z] at h;rw[aj,h,B,hR]
    congr 3
    simp
   have ba:n+1<=G:=by rw[z];exact grownCap_ge w _ _ _
   have U:G<=maxLen:=by rw[z];exact grownCap_le_maxLen w (n+1) c _ (by unfold maxLen;omega)
   have ab:R.length=G * 5:=by
    exact QCC
   have ae:t.heap[w.heap.size]? =some (.cells R.toArray 52 (0,0)):=by rw[B];exact heap_alloc_new w.drew _
   have V:Below w.heap.size w t:=by
    have h:=aB w.drew (.cells R.toArray 52);rw[B];exact⟨h.os,h.tape,h.output,h.size,h.block⟩
   have ad:R.take (i * 5)=xs.take (i * 5):=by
    exact QCs
   have ao:∀j u,CS[j]? =some u->t.cell? ⟨vb,0+j,none⟩=some u:=fun j u hu=>(World.cell?_of_block (a:=⟨vb,0+j,none⟩) (V.block vb Y)).trans (K j u hu)
   have bf:¬(G=i):=qo;have bg:¬(G=i+1):=qo;have be:G<=9223372036854775807:=by unfold maxLen at U;omega
   have r:Hid (∀j u,(xs.drop (i * 5))[j]? =some u->w.cell? ⟨g,i * 5+j,none⟩=some u):=aA (fun j u hu=>by rw[List.getElem?_drop] at hu;simp only[World.cell?,hg'];simpa using hxc _ u hu);obtain⟨av,HGn,HGm,P,a6,HW1B,HRT,az⟩:=RS ak ba U ab ae V ad ao;obtain⟨O,H1,HCS,HDL,HXL⟩:=gC E h1 d F q;clear f b hg' y hxc E h1 K J d F q H x hold X aj z hR B ak U ab ae V ad ao h2 h3 h4 h5 h6;go_enter func106,ntmps106;go_wp2_with (first
    |(at_builtin;refine Lib.wpList_append_run _ rfl _ _ _ _ rfl _ _ rfl rfl _ _ (av.o _) ?_)
    |(refine rX rfl (.tmp 43) (.tmp 44) _ _ rfl 52 5 m I w.heap.size _ (i * 5) _ _ _ _ 0 _ _ _ rfl rfl rfl rfl rfl R 52 a6.o 1 CS (by simp only[Nat.min_def];split<;>omega) (qA HCS.o) az.o (qF P.o HCS.o HGn.o) H1.o ?_;intro M p o;have HW5:=aA p.o;have HG5:=aA o;clear p o))
   obtain⟨Q,A⟩:=xE (R.take (i * 5)++CS++R.drop (i * 5+CS.length));have au:=aA A;have a8:Hid (M.heap[w.heap.size]? =some (.cells Q.toArray 52 (0,0))):=aA (by rw[A];exact HW5.o);have af:M.heap[g]? =w.heap[g]? :=(HG5.o.block g (lL ai HW1B.o.size) (fun e=>by injection e;omega)).trans (HW1B.o.block g ai);have aw:Hid (∀j u,(xs.drop (i * 5))[j]? =some u->M.cell? ⟨g,i * 5+j,none⟩=some u):=aA (fun j u hu=>(World.cell?_of_block (a:=⟨g,i * 5+j,none⟩) af).trans (r.o j u hu));have HL1:Hid (Q.length=G * 5):=aA (by rw[A];simp only[aL,List.length_take,List.length_drop];have:=P.o;have:=HCS.o;have:=HGn.o;omega);clear r af A HW5;go_region_law (refine uZ rfl _ _ _ _ rfl 52 5 m I w.heap.size w.heap.size ((i+1) * 5) ((i+1) * 5) (n - i) (G - (i+1)) g (i * 5) (i * 5) (n - i) (c - i) (by simp[Act.eval,Act.put]) (by simp[Act.eval,Act.put]) rfl rfl rfl Q 52 a8.o (n - i) (xs.drop (i * 5)) (by simp only[Nat.min_def];split<;>omega) HDL.o aw.o (qF HDL.o HL1.o HGn.o) O.o ?_;intro w6 ar ah;have HW6:=aA ar.o;have HG6:=aA ah;clear ar ah)
   go_wp2;go_ret;unfold pK;have e1:(n+1) * 5=n * 5+5:=qo;have e2:(i+1) * 5=i * 5+5:=qo;have h9:=UJ (C:=R) (D:=xs.drop (i * 5)) (cs:=CS) (a:=i * 5) (s:=5) (L:=n * 5) (qD P.o HGn.o) (qA HDL.o) qo HCS.o au.o rfl;exact QAC
theorem FY{p:Prop}(h:p:=by
 exact⟨List.prefix_refl _,Int.le_refl _⟩):p:=h
theorem Cw(s:Sto)(o:Op)(what:bY):(lS s o what).aCX=s.aCX/\(lS s o what).aCW=s.aCW:=by
 unfold lS;dsimp only;split<;>exact⟨rfl,rfl⟩
theorem KK(o:Op)(d:Bool)(s:Sto)(x:Ob):(cX o d s x).aCX=s.aCX/\(cX o d s x).aCW=s.aCW:=by
 unfold cX;split
 .exact Cw _ _ _
 .split
  .exact⟨rfl,rfl⟩
  .split<;>exact⟨rfl,rfl⟩
theorem mW(o:Op)(d:Bool):∀(l:List Ob) (s:Sto),(l.foldl (cX o d) s).aCX=s.aCX/\(l.foldl (cX o d) s).aCW=s.aCW
 | [],_=>⟨rfl,rfl⟩
 |x::l,s=>⟨(mW o d l _).1.trans (KK o d s x).1,(mW o d l _).2.trans (KK o d s x).2⟩
theorem gQ(g:Bool)(s:Sto)(o:Op)(r:bY):(if g=true then gB s o r else s).aCX=s.aCX/\(if g=true then gB s o r else s).aCW=s.aCW:=by split<;>exact⟨rfl,rfl⟩
theorem Cx(s:Sto)(o:Op):s.aCX <+:(dH s o).aCX/\s.aCW<=(dH s o).aCW:=by
 unfold dH;dsimp only;split
 .exact FY
 split
 .exact FY
 split
 .exact FY
 split
 .exact FY
 split
 .exact FY
 split
 .split
  .exact FY
  .exact⟨List.prefix_append _ _,Int.le_refl _⟩
 split
 .split
  .exact⟨List.prefix_refl _,by show s.aCW<=s.aCW+1;omega⟩
  .exact FY
 split
 .exact FY
 .exact FY
theorem XV(s:Sto)(o:Op):s.aCX <+:(cP s o).1.aCX/\s.aCW<=(cP s o).1.aCW:=by
 have h:=lV s o
 rcases b:cP s o with ⟨t,r,d,e⟩
 rw[b] at h
 cases h with
 |none _ _ he k _=>exact⟨List.prefix_refl _,Int.le_refl _⟩
 |some m l glass hidden v n j g c i f p=>
  dsimp only;rw[(mW _ _ _ _).1,(mW _ _ _ _).2];by_cases a:(decide (m=(4,0))||glass)=true
  .rw[iP a];have h1:=Cx (if glass=true then gB s o o.aC7 else s) o;rw[(gQ glass s o o.aC7).1,(gQ glass s o o.aC7).2] at h1;exact h1
  .rw[iN a,(gQ glass s o o.aC7).1,(gQ glass s o o.aC7).2];exact FY
theorem QBZ{p:Prop}(h:p:=by
 obtain⟨l,rfl,hl⟩:=h;obtain⟨m,rfl,hm⟩:=k;refine⟨l++m,by rw[List.append_assoc],fun n hn=> ?_⟩
 rcases List.mem_append.1 hn with hn|hn
 .exact hl n hn
 .exact hm n hn):p:=h
def pL(a b:List xP)(tick:Int):Prop:=∃l,b=a++l/\∀n∈l,n.aCR=tick
theorem pL.refl(a:List xP)(t:Int):pL a a t:=⟨[],qs,fun n h=>absurd h qs⟩
theorem pL.trans{a b c:List xP}{t:Int}(h:pL a b t)(k:pL b c t):pL a c t:=by
 exact QBZ
theorem UK(s:Sto)(o:Op)(what:bY):(lS s o what).aCS=s.aCS/\(lS s o what).aCO=s.aCO:=by
 unfold lS;dsimp only;split<;>exact⟨rfl,rfl⟩
theorem QDg{p:Prop}(h:p:=by
 rintro⟨h1,h2,h3⟩;exact⟨qo,qo,fun c hc=>by have:=h3 c hc;simpa using this⟩):p:=h
theorem Ig(a:bY):¬a.toList<a.toList:=List.lt_irrefl _
theorem UL{a b c:bY}(h:a.toList<b.toList)(k:b.toList<c.toList):a.toList<c.toList:=List.lt_trans h k
theorem EV{a b:bY}(h:a.toList=b.toList):a=b:=by
 rw[Lib.toList_data,Lib.toList_data] at h;exact ByteArray.ext (Array.ext' h)
theorem ZU{a b:bY}:gR a b=true↔¬b.toList<a.toList:=by unfold gR;exact decide_eq_true_iff
theorem On(a:bY):gR a a=true:=ZU.2 (Ig a)
theorem Ih{a b:bY}:gR a b=false↔b.toList<a.toList:=by unfold gR;simp
theorem Oo{a b:bY}(h:gR a b=true)(c:a≠b):a.toList<b.toList:=by
 rcases Decidable.em (a.toList<b.toList) with h1|h1
 .exact h1
 .exact absurd (EV (List.le_antisymm (ZU.1 h) h1)) c
def kJ{α:Type}(key:α->ByteArray)(l:List α):Prop:=l.Pairwise (fun a b=>(key a).toList<(key b).toList)
theorem Cy{α:Type}{key:α->ByteArray}{l:List α}(h:kJ key l){k:Nat}(a:k<l.length):l.findIdx (fun c=>gR (key l[k]) (key c))=k:=by
 rw[List.findIdx_eq a];refine⟨On _,fun j hj=> ?_⟩;exact Ih.2 (List.pairwise_iff_getElem.1 h j k qo a hj)
theorem AG{α:Type}{key:α->ByteArray}{l:List α}(h:kJ key l)(x:α)(i:Nat)(g:l.findIdx (fun c=>gR (key x) (key c))=i)(q:∀c,l[i]? =some c->key c≠key x):kJ key (l.take i++[x]++l.drop i):=by
 have hle:i<=l.length:=g▸List.findIdx_le_length;have n:∀y∈l.take i,(key y).toList<(key x).toList:=by
  intro y d;obtain⟨j,hj,rfl⟩:=List.getElem_of_mem d;rw[List.length_take] at hj;rw[List.getElem_take];have:=List.not_of_lt_findIdx (p:=fun c=>gR (key x) (key c)) (xs:=l) (i:=j) qo;exact Ih.1 (by simpa using this)
 have m:∀y∈l.drop i,(key x).toList<(key y).toList:=by
  rcases Nat.lt_or_ge i l.length with k|o
  .have h1:gR (key x) (key l[i])=true:=by
    have:=List.findIdx_getElem (p:=fun c=>gR (key x) (key c)) (xs:=l) (w:=by rw[g];exact k);simpa [g] using this
   have h2:(key x).toList<(key l[i]).toList:=Oo h1 (fun e=>q l[i] (gE k) e.symm);intro y d;obtain⟨j,hj,rfl⟩:=List.getElem_of_mem d;rw[List.length_drop] at hj;rw[List.getElem_drop]
   rcases Nat.eq_zero_or_pos j with rfl|hp
   .exact h2
   .exact UL h2 (List.pairwise_iff_getElem.1 h i (i+j) k qo qo)
  .rw[List.drop_of_length_le o];intro y d;cases d
 unfold kJ;rw[List.append_assoc,List.pairwise_append];refine⟨h.sublist (List.take_sublist _ _),?_,?_⟩
 .rw[List.singleton_append,List.pairwise_cons];exact⟨m,h.sublist (List.drop_sublist _ _)⟩
 .intro a ha b f;rw[List.singleton_append,List.mem_cons] at f
  rcases f with rfl|f
  .exact n a ha
  .exact UL (n a ha) (m b f)
theorem FZ{α:Type}{key:α->ByteArray}{l m:List α}(h:kJ key l)(he:m.map key=l.map key):kJ key m:=by
 have h1:(l.map key).Pairwise (fun a b:ByteArray=>a.toList<b.toList):=List.pairwise_map.2 h;rw[<-he] at h1;exact(List.pairwise_map (f:=key) (R:=fun a b:ByteArray=>a.toList<b.toList)).1 h1
theorem KL{α:Type}{key:α->ByteArray}{l:List α}(h:kJ key l){i:Nat}{x:α}(b:∀c,l[i]? =some c->key x=key c):kJ key (l.set i x):=by
 refine FZ h ?_;refine List.ext_getElem? fun j=> ?_
 rw[List.getElem?_map,List.getElem?_map,List.getElem?_set];by_cases e:i=j
 .subst e;rw[iP rfl];by_cases a:i<l.length
  .rw[iP a,gE a];exact congrArg some (b _ (gE a))
  .rw[iN a,List.getElem?_eq_none qo]
 .rw[iN e]
theorem Uu{s:Sto}{id:bY}(h:(aW s id).2=true):∃(k:Nat) (d:k<s.aCK.length),aW s id=(k,true)/\s.aCK[k].id=id/\eT s id=some s.aCK[k]/\s.aCK.findIdx (fun c=>gR id c.id)=k:=by
 unfold aW at h;dsimp only at h;by_cases a:s.aCK.findIdx (fun c=>gR id c.id)<s.aCK.length
 .rw[iP a,gE a] at h;have h2:s.aCK[s.aCK.findIdx (fun c=>gR id c.id)].id=id:=by simpa using h
  have b:aW s id=(s.aCK.findIdx (fun c=>gR id c.id),true):=by
   unfold aW;dsimp only;rw[iP a,gE a];simp[h2]
  refine⟨_,a,b,h2,?_,rfl⟩;unfold eT;rw[b];exact gE a
 .rw[iN a] at h;cases h
theorem Oq{s:Sto}{id:bY}(h:(aW s id).2=false):(aW s id).1=s.aCK.findIdx (fun c=>gR id c.id)/\∀c,s.aCK[(aW s id).1]? =some c->c.id≠id:=by
 unfold aW at h ⊢;dsimp only at h ⊢;by_cases b:s.aCK.findIdx (fun c=>gR id c.id)<s.aCK.length
 .rw[iP b] at h ⊢;refine⟨rfl,fun c a e=> ?_⟩;dsimp only at a;rw[a] at h;simp[e] at h
 .rw[iN b] at h ⊢;have hle:s.aCK.findIdx (fun c=>gR id c.id)<=s.aCK.length:=List.findIdx_le_length;refine⟨by dsimp only;omega,fun c a=> ?_⟩;dsimp only at a;rw[List.getElem?_eq_none (lR _)] at a
  cases a
theorem ZV{s:Sto}{id:bY}{c:cF}(h:eT s id=some c):∃(k:Nat) (b:k<s.aCK.length),aW s id=(k,true)/\s.aCK[k]=c/\c.id=id/\s.aCK.findIdx (fun c=>gR id c.id)=k:=by
 unfold eT at h;by_cases a:(aW s id).2=true
 .obtain⟨k,b,h1,h2,h3,h4⟩:=Uu a;rw[iP a,h1] at h;dsimp only at h;rw[gE b] at h;injection h with h;exact⟨k,b,h1,h,h▸h2,h4⟩
 .rw[iN a] at h;cases h
structure lW (tick:Int) (c:cF):Prop where
 aCP:c.aCP.length<=16
 aDn:kJ Prod.fst c.aCP
 aDM:∀f∈c.aCP,f.2≠bD
 aDs:∀h∈c.log,0<=h.aCR/\h.aCR<=tick
 order:c.log.Pairwise (fun a b=>a.aCR<=b.aCR)
structure uA (s:Sto):Prop where
 aCR:0<=s.aCR/\s.aCR<=1099511627776
 aCW:0<=s.aCW
 few:s.aCK.length<=64
 aCX:s.aCX.length<=64
 aDn:kJ cF.id s.aCK
 each:∀c∈s.aCK,lW s.aCR c
 aDo:∀r∈s.aCO,0<=r.aCR/\r.aCR<=s.aCR
def AH(s:Sto):Prop:=uA s/\qM s=false
theorem lW.more{t b:Int}{c:cF}(h:lW t c)(d:t<=b):lW b c:=⟨h.aCP,h.aDn,h.aDM,fun x a=>⟨(h.aDs x a).1,qA ((h.aDs x a).2)⟩,h.order⟩
theorem sZ{s:Sto}:qM s=false↔s.aCO.length<=256/\s.aCS.length<=256/\∀c∈s.aCK,c.log.length<=256:=by
 unfold qM;rw[Bool.or_eq_false_iff,Bool.or_eq_false_iff,decide_eq_false_iff_not,decide_eq_false_iff_not,List.any_eq_false];constructor
 .exact QDg
 .exact QDg
structure iD (c d:cF):Prop where
 id:d.id=c.id
 aDb:d.aDb=c.aDb
 aC5:d.aC5=c.aC5\/gV c.aC5 d.aC5=true
 log:c.log <+:d.log
 shut:c.aC5=oB->d.aCP=c.aCP
theorem iD.refl(c:cF):iD c c:=⟨rfl,rfl,.inl rfl,List.prefix_refl _,fun _=>rfl⟩
def jP(t:Int)(a:bY)(l m:List cF):Prop:=m.length=l.length/\∀(i:Nat) (c:cF),l[i]? =some c->∃L:List tU,m[i]? =some {c with log:=c.log++L}/\∀h∈L,h.aCR=t/\h.aDj=a
theorem jP.refl(t:Int)(a:bY)(l:List cF):jP t a l l:=⟨rfl,fun i c h=>⟨[],by rw[h,List.append_nil],fun _ h=>by cases h⟩⟩
theorem jP.trans{t:Int}{a:bY}{l m n:List cF}(h:jP t a l m)(k:jP t a m n):jP t a l n:=by
 refine⟨k.1.trans h.1,fun i c j=> ?_⟩;obtain⟨L,e,f⟩:=h.2 i c j;obtain⟨M,d,g⟩:=k.2 i _ e;refine⟨L++M,by rw[d,List.append_assoc],fun x b=> ?_⟩
 rcases List.mem_append.1 b with b|b
 .exact f x b
 .exact g x b
theorem XW(s:Sto)(o:Op)(what:bY):jP s.aCR o.aCZ s.aCK (lS s o what).aCK:=by
 unfold lS;dsimp only;split
 .unfold fE;dsimp only;split
  .rename_i c f;refine⟨List.length_set,fun i d a=> ?_⟩;rw[List.getElem?_set];by_cases e:s.aCK.findIdx (fun c=>decide (c.id=o.aCQ))=i
   .subst e;rw[iP rfl,iP qo];rw[f] at a;injection a with a;subst a;exact⟨[⟨s.aCR,o.aCZ,what⟩],rfl,fun h b=>by rw[List.mem_singleton] at b;rw[b];exact⟨rfl,rfl⟩⟩
   .rw[iN e];exact⟨[],by rw[a,List.append_nil],fun _ h=>by cases h⟩
  .exact jP.refl _ _ _
 .exact jP.refl _ _ _
theorem XX(o:Op)(d:Bool)(s:Sto)(x:Ob):jP s.aCR o.aCZ s.aCK (cX o d s x).aCK:=by
 unfold cX;split
 .exact XW s o x.arg
 .split
  .exact jP.refl _ _ _
  .split<;>exact jP.refl _ _ _
theorem uN(o:Op)(d:Bool):∀(l:List Ob) (s:Sto),jP s.aCR o.aCZ s.aCK (l.foldl (cX o d) s).aCK
 | [],_=>jP.refl _ _ _
 |x::l,s=>(XX o d s x).trans (by have:=uN o d l (cX o d s x);rwa [CJ] at this)
theorem Cz{t:Int}{a:bY}{l m:List cF}(h:jP t a l m):m.map cF.id=l.map cF.id:=by
 refine List.ext_getElem? fun j=> ?_
 rw[List.getElem?_map,List.getElem?_map]
 rcases Nat.lt_or_ge j l.length with hj|hj
 .obtain⟨L,e,_⟩:=h.2 j l[j] (gE hj);rw[e,gE hj];rfl
 .rw[List.getElem?_eq_none hj,List.getElem?_eq_none (by rw[h.1];exact hj)]
theorem Da{t:Int}{a:bY}{l m:List cF}(h:jP t a l m){d:cF}(g:d∈m):∃c∈l,∃L:List tU,d={c with log:=c.log++L}/\∀h∈L,h.aCR=t/\h.aDj=a:=by
 obtain⟨i,b,rfl⟩:=List.getElem_of_mem g;have j:i<l.length:=by rw[<-h.1];exact b
 obtain⟨L,e,f⟩:=h.2 i l[i] (gE j);rw[gE b] at e;injection e with e;exact⟨l[i],List.getElem_mem _,L,e,f⟩
theorem OQ{t:Int}{a:bY}{c:cF}{L:List tU}(h:lW t c)(f:0<=t)(d:∀h∈L,h.aCR=t/\h.aDj=a):lW t {c with log:=c.log++L}:=by
 refine⟨h.aCP,h.aDn,h.aDM,fun x b=> ?_,?_⟩
 .rcases List.mem_append.1 b with b|b
  .exact h.aDs x b
  .rw[(d x b).1];exact⟨f,Int.le_refl _⟩
 .rw[List.pairwise_append];refine⟨h.order,?_,fun x b y g=> ?_⟩
  .refine List.pairwise_iff_getElem.2 fun i j e hj _=> ?_
   rw[(d _ (List.getElem_mem e)).1,(d _ (List.getElem_mem hj)).1];exact Int.le_refl _
  .rw[(d y g).1];exact(h.aDs x b).2
def jG(a b:List vU)(tick:Int):Prop:=∃l,b=a++l/\∀r∈l,r.aCR=tick/\r.open_=true
theorem jG.refl(a:List vU)(t:Int):jG a a t:=⟨[],qs,fun n h=>absurd h qs⟩
theorem jG.trans{a b c:List vU}{t:Int}(h:jG a b t)(k:jG b c t):jG a c t:=by
 exact QBZ
theorem OR(s:Sto)(o:Op)(r:bY):jG s.aCO (gB s o r).aCO s.aCR:=⟨_,rfl,fun n a=>by rw[List.mem_singleton] at a;rw[a];exact⟨rfl,rfl⟩⟩
theorem Ii(o:Op)(d:Bool)(s:Sto)(x:Ob):jG s.aCO (cX o d s x).aCO s.aCR:=by
 unfold cX;split
 .rw[(UK _ _ _).2];exact jG.refl _ _
 .split
  .exact OR _ _ _
  .split<;>exact jG.refl _ _
theorem GA(o:Op)(d:Bool):∀(l:List Ob) (s:Sto),jG s.aCO (l.foldl (cX o d) s).aCO s.aCR
 | [],_=>jG.refl _ _
 |x::l,s=>(Ii o d s x).trans (by have:=GA o d l (cX o d s x);rwa [CJ] at this)
theorem tA(g:Bool)(s:Sto)(o:Op)(r:bY):(if g=true then gB s o r else s).aCK=s.aCK:=by split<;>rfl
theorem QR(g:Bool)(s:Sto)(o:Op)(r:bY):jG s.aCO (if g=true then gB s o r else s).aCO s.aCR:=by
 split
 .exact OR _ _ _
 .exact jG.refl _ _
theorem UM{a b:List vU}{t:Int}(h:jG a b t)(e:0<=t)(ha:∀r∈a,0<=r.aCR/\r.aCR<=t):∀r∈b,0<=r.aCR/\r.aCR<=t:=by
 obtain⟨l,rfl,d⟩:=h;intro r c
 rcases List.mem_append.1 c with c|c
 .exact ha r c
 .rw[(d r c).1];exact⟨e,Int.le_refl _⟩
theorem Ij{s:Sto}(h:uA s)(g:Bool)(o:Op)(r:bY):uA (if g=true then gB s o r else s):=by
 have h1:=UM (QR g s o r) h.aCR.1 h.aDo;have a:=uL g s o r;have c:=gQ g s o r;have b:=tA g s o r;exact⟨by rw[a];exact h.aCR,by rw[c.2];exact h.aCW,by rw[b];exact h.few,by rw[c.1];exact h.aCX,by rw[b];exact h.aDn,by rw[b,a];exact h.each,by rw[a];exact h1⟩
theorem Db{s:Sto}(h:uA s)(o:Op)(d:Bool)(l:List Ob):uA (l.foldl (cX o d) s):=by
 have a:=xS o d l s;have f:=mW o d l s;have e:=uN o d l s;refine⟨by rw[a];exact h.aCR,by rw[f.2];exact h.aCW,by rw[e.1];exact h.few,by rw[f.1];exact h.aCX,FZ h.aDn (Cz e),?_,?_⟩
 .intro c j;obtain⟨b,i,L,rfl,g⟩:=Da e j;rw[a];exact OQ (h.each b i) h.aCR.1 g
 .rw[a];exact UM (GA o d l s) h.aCR.1 h.aDo
theorem QDh{p:Prop}(h:p:=by
 simp only[aL,List.length_singleton,List.length_take,List.length_drop];omega):p:=h
def nR(l:List (ByteArray×V3))(name:bY)(v:V3):List (ByteArray×V3):=
 let i:=l.findIdx (fun f=>gR name f.1)
 match l[i]? with
 |none=>l++[(name,v)]
 |some f=>if f.1=name then l.set i (name,v) else l.take i++[(name,v)]++l.drop i
theorem xI(c:cF)(name:bY)(v:V3):nW c name v={c with aCP:=nR c.aCP name v}:=by
 unfold nW nR;dsimp only
 cases c.aCP[c.aCP.findIdx (fun f=>gR name f.1)]? with
 |none=>rfl
 |some f=>dsimp only;split<;>rfl
theorem Ot{l:List (ByteArray×V3)}{name:bY}{v:V3}{f:ByteArray×V3}(h:f∈nR l name v):f∈l\/f=(name,v):=by
 unfold nR at h;dsimp only at h;split at h
 .rcases List.mem_append.1 h with h|h
  .exact .inl h
  .exact .inr (by simpa using h)
 .split at h
  .rcases List.mem_or_eq_of_mem_set h with h|h
   .exact .inl h
   .exact .inr h
  .rw[List.append_assoc,List.mem_append,List.mem_append] at h
   rcases h with h|h|h
   .exact .inl (List.mem_of_mem_take h)
   .exact .inr (by simpa using h)
   .exact .inl (List.mem_of_mem_drop h)
theorem Ik{l:List (ByteArray×V3)}(h:kJ Prod.fst l)(name:bY)(v:V3):kJ Prod.fst (nR l name v):=by
 unfold nR;dsimp only;split
 .rename_i d;have hle:l.findIdx (fun f=>gR name f.1)<=l.length:=List.findIdx_le_length;have e:l.length<=l.findIdx (fun f=>gR name f.1):=List.getElem?_eq_none_iff.1 d;have:=AG h (name,v) l.length (by show l.findIdx (fun c=>gR name c.1)=_;omega) (fun c a=>by rw[List.getElem?_eq_none (lR _)] at a;cases a);rwa [List.take_length,List.drop_length,List.append_nil] at this
 .rename_i f b;split
  .rename_i he;exact KL h (fun c a=>by rw[b] at a;injection a with a;rw[<-a];exact he.symm)
  .rename_i he;exact AG h (name,v) _ rfl (fun c a=>by
    have:l[l.findIdx (fun f=>gR name f.1)]? =some c:=a;rw[b] at this;injection this with this;rw[<-this];exact he)
theorem XY{l:List (ByteArray×V3)}(h:kJ Prod.fst l){f:ByteArray×V3}(b:f∈l):l[l.findIdx (fun g=>gR f.1 g.1)]? =some f:=by
 obtain⟨k,a,rfl⟩:=List.getElem_of_mem b;have:=Cy (key:=Prod.fst) h a;rw[this];exact gE a
theorem Ou{l:List (ByteArray×V3)}(h:kJ Prod.fst l)(name:bY)(v:V3)(a:l.length<=16)(c:16<=l.length->∃f∈l,f.1=name):(nR l name v).length<=16:=by
 by_cases h16:16<=l.length
 .obtain⟨f,b,rfl⟩:=c h16;have e:=XY h b;unfold nR;dsimp only;rw[e];dsimp only;rw[iP rfl,List.length_set];exact a
 .unfold nR;dsimp only;split
  .rw[aL,List.length_singleton];omega
  .split
   .rw[List.length_set];exact a
   .rw[aL,aL,List.length_singleton,List.length_take,List.length_drop];omega
theorem Dc{c:cF}{name:bY}(h:gI c name≠bD):∃f∈c.aCP,f.1=name:=by
 unfold gI at h
 cases a:c.aCP.find? (fun f=>decide (f.1=name)) with
 |none=>rw[a] at h;exact absurd rfl h
 |some f=>exact⟨f,List.mem_of_find?_eq_some a,by simpa using List.find?_some a⟩
theorem QS{o:Op}(h:gA o=true)(a:o.aCJ=3):o.val≠bD:=by
 unfold gA at h;split at h
 .cases h
 split at h
 .cases h
 unfold fV at h;dsimp only at h;rw[iN qo,iN qo,iP a] at h;simp only[Bool.and_eq_true,decide_eq_true_eq] at h;exact h.1.2
theorem wI{o:Op}(h:gA o=true)(a:o.aCJ=8):0<o.aC6/\o.aC6<=1099511627776:=by
 unfold gA at h;split at h
 .cases h
 split at h
 .cases h
 unfold fV at h;dsimp only at h;rw[iN qo,iN qo,iN qo,iN qo,iN qo,iN qo,iP a] at h;simp only[Bool.and_eq_true,decide_eq_true_eq] at h;exact h.1
theorem AI{s:Sto}{o:Op}(h:iF s o=0):∃c,eT s o.aCQ=some c/\¬(o.aCJ=3/\16<=c.aCP.length/\gI c o.aC4=bD)/\¬(o.aCJ≠2/\256<=c.log.length)/\¬((o.aCJ=3/\c.aC5=oB)\/(o.aCJ=4/\gV c.aC5 o.to_=false)):=by
 unfold iF at h
 cases a:eT s o.aCQ with
 |none=>rw[a] at h;exact absurd (show (10:Int)=0 from h) qe
 |some c=>
  rw[a] at h;dsimp only at h;refine⟨c,rfl,?_⟩;split at h
  .cases h
  rename_i h1;split at h
  .cases h
  rename_i h2;split at h
  .cases h
  rename_i h3;exact⟨h1,h2,h3⟩
theorem AJ{s:Sto}{o:Op}(h:dN s o=0):gA o=true/\(o.aCJ=1->(aW s o.aCQ).2=false/\s.aCK.length<64)/\(o.aCJ=2\/o.aCJ=3\/o.aCJ=4->iF s o=0)/\(o.aCJ=5->iQ s o=0)/\(o.aCJ=6->¬(64<=s.aCX.length/\rS s o.aCQ o.aC4=false))/\(o.aCJ=8->s.aCR<=1099511627776 - o.aC6):=by
 have b:=lH h;unfold dN at h;rw[b,iN qe] at h;refine⟨b,fun a=> ?_,fun a=> ?_,fun a=> ?_,fun a=> ?_,fun a=> ?_⟩
 .rw[iP a] at h;split at h
  .cases h
  rename_i h1;split at h
  .cases h
  exact⟨by simpa using h1,qo⟩
 .rw[iN qo,iP a] at h;exact h
 .rw[iN qo,iN qo,iP a] at h;exact h
 .rw[iN qo,iN qo,iN qo,iP a] at h;split at h
  .cases h
  rename_i h1;exact h1
 .rw[iN qo,iN qo,iN qo,iN qo,iP a] at h;split at h
  .cases h
  omega
theorem MT{s:Sto}{c:cF}(h:lW s.aCR c)(e:0<=s.aCR)(a b:bY):lW s.aCR (oE s c a b):=OQ h e (L:=[⟨s.aCR,a,b⟩]) (a:=a) (fun x d=>by rw[List.mem_singleton] at d;rw[d];exact⟨rfl,rfl⟩)
theorem KM{s:Sto}{i:Nat}{f:cF->cF}{d:cF}(h:d∈(fE s i f).aCK):d∈s.aCK\/∃c,s.aCK[i]? =some c/\d=f c:=by
 unfold fE at h;dsimp only at h;split at h
 .rename_i c a
  rcases List.mem_or_eq_of_mem_set h with h|h
  .exact .inl h
  .exact .inr ⟨c,a,h⟩
 .exact .inl h
theorem XZ{s:Sto}{i:Nat}{f:cF->cF}(h:kJ cF.id s.aCK)(e:∀c,s.aCK[i]? =some c->(f c).id=c.id):kJ cF.id (fE s i f).aCK:=by
 unfold fE;dsimp only;split
 .rename_i c b;exact KL h (fun d a=>by rw[b] at a;injection a with a;rw[<-a];exact e c b)
 .exact h
theorem AK(s:Sto)(i:Nat)(f:cF->cF):(fE s i f).aCK.length=s.aCK.length:=by
 unfold fE;dsimp only;split
 .exact List.length_set
 .rfl
def lX(s t:Sto):Prop:=s.aCK.length<=t.aCK.length/\∀c∈s.aCK,∃d∈t.aCK,iD c d
theorem lX.refl(s:Sto):lX s s:=⟨lR _,fun c a=>⟨c,a,iD.refl c⟩⟩
theorem Ov{s:Sto}{i:Nat}{f:cF->cF}(g:∀c,s.aCK[i]? =some c->iD c (f c)):lX s (fE s i f):=by
 refine⟨by rw[AK];exact lR _,fun c d=> ?_⟩;obtain⟨k,b,rfl⟩:=List.getElem_of_mem d;unfold fE;dsimp only;split
 .rename_i c a;by_cases e:i=k
  .subst e;rw[gE b] at a;injection a with a;subst a;exact⟨_,List.mem_set b _,g _ (gE b)⟩
  .exact⟨s.aCK[k],List.mem_iff_getElem.2 ⟨k,by rw[List.length_set];exact b,by rw[List.getElem_set_ne e]⟩,iD.refl _⟩
 .exact⟨_,d,iD.refl _⟩
theorem UN{s:Sto}{id:bY}{c d:cF}(h:eT s id=some c)(a:s.aCK[(aW s id).1]? =some d):d=c:=by
 obtain⟨k,f,b,e,_⟩:=ZV h;rw[b] at a;dsimp only at a;rw[gE f,e] at a;injection a with a;exact a.symm
theorem UO{s:Sto}(o:Op)(h:uA s):uA (dH s o)/\lX s (dH s o):=by
 unfold dH;by_cases h0:dN s o=0
 case neg=>rw[iP h0];exact⟨h,lX.refl s⟩
 rw[iN (fun j=>j h0)];obtain⟨d,B,p,G,C,D⟩:=AJ h0;dsimp only;by_cases h1:o.aCJ=1
 .rw[iP h1];obtain⟨h2,h3⟩:=B h1;obtain⟨n,w⟩:=Oq h2;have E:lW s.aCR (oE s ⟨o.aCQ,o.aCZ,zN,[],[]⟩ o.aCZ (str "new")):=
   MT (c:=⟨o.aCQ,o.aCZ,zN,[],[]⟩) ⟨qs,List.Pairwise.nil,(fun f d=>by cases d),(fun x b=>by cases b),List.Pairwise.nil⟩ h.aCR.1 _ _
  have hle:(aW s o.aCQ).1<=s.aCK.length:=by rw[n];exact List.findIdx_le_length
  refine⟨⟨h.aCR,h.aCW,?_,h.aCX,?_,?_,h.aDo⟩,?_,?_⟩
  .exact QDh
  .exact AG (key:=cF.id) h.aDn _ _ n.symm w
  .intro c a;simp only[List.append_assoc,List.mem_append,List.mem_singleton] at a
   rcases a with a|rfl|a
   .exact h.each c (List.mem_of_mem_take a)
   .exact E
   .exact h.each c (List.mem_of_mem_drop a)
  .exact QDh
  .intro c a;refine⟨c,?_,iD.refl c⟩;simp only[List.append_assoc,List.mem_append,List.mem_singleton];have:c∈s.aCK.take (aW s o.aCQ).1++s.aCK.drop (aW s o.aCQ).1:=by rw[List.take_append_drop];exact a
   rcases List.mem_append.1 this with h|h
   .exact .inl h
   .exact .inr (.inr h)
 rw[iN h1];have q:∀f:cF->cF,(∀c,s.aCK[(aW s o.aCQ).1]? =some c->lW s.aCR c->lW s.aCR (f c)/\iD c (f c))->uA (fE s (aW s o.aCQ).1 f)/\lX s (fE s (aW s o.aCQ).1 f):=by
  intro f z;have hm:∀c,s.aCK[(aW s o.aCQ).1]? =some c->lW s.aCR (f c)/\iD c (f c):=fun c a=>z c a (h.each c (List.mem_of_getElem? a))
  refine⟨⟨h.aCR,h.aCW,by rw[AK];exact h.few,h.aCX,XZ h.aDn (fun c a=>(hm c a).2.id),fun c a=> ?_,h.aDo⟩,Ov (fun c a=>(hm c a).2)⟩
  rcases KM a with a|⟨v,y,rfl⟩
  .exact h.each c a
  .exact(hm v y).1
 by_cases h3:o.aCJ=3
 .rw[iP h3];obtain⟨c0,g,t,F,m⟩:=AI (p (.inr (.inl h3)));refine q _ fun c a hm=> ?_
  obtain rfl:=UN g a;rw[xI];have k:lW s.aCR {c with aCP:=nR c.aCP o.aC4 o.val}:=by
   refine⟨Ou hm.aDn _ _ hm.aCP (fun h16=>Dc (fun e=>t ⟨h3,h16,e⟩)),Ik hm.aDn _ _,fun f i=> ?_,hm.aDs,hm.order⟩
   rcases Ot i with i|rfl
   .exact hm.aDM f i
   .exact QS d h3
  exact⟨MT k h.aCR.1 _ _,⟨rfl,rfl,.inl rfl,List.prefix_append _ _,fun a=>absurd (.inl ⟨h3,a⟩) m⟩⟩
 rw[iN h3];by_cases h4:o.aCJ=4
 .rw[iP h4];obtain⟨c0,g,t,F,m⟩:=AI (p (.inr (.inr h4)));refine q _ fun c a hm=> ?_
  obtain rfl:=UN g a;have k:lW s.aCR {c with aC5:=o.to_}:=⟨hm.aCP,hm.aDn,hm.aDM,hm.aDs,hm.order⟩;refine⟨MT k h.aCR.1 _ _,⟨rfl,rfl,.inr ?_,List.prefix_append _ _,fun _=>rfl⟩⟩;show gV c.aC5 o.to_=true
  cases A:gV c.aC5 o.to_
  .exact absurd (.inr ⟨h4,A⟩) m
  .rfl
 rw[iN h4];by_cases h5:o.aCJ=5
 .rw[iP h5];refine⟨⟨h.aCR,h.aCW,h.few,h.aCX,h.aDn,h.each,?_⟩,lR _,fun c a=>⟨c,a,iD.refl c⟩⟩;dsimp only;split
  .rename_i r l;intro x b
   rcases List.mem_or_eq_of_mem_set b with b|rfl
   .exact h.aDo x b
   .exact h.aDo r (List.mem_of_getElem? l)
  .exact h.aDo
 rw[iN h5];by_cases h6:o.aCJ=6
 .rw[iP h6];split
  .exact⟨h,lX.refl s⟩
  .rename_i j;have:=C h6;refine⟨⟨h.aCR,h.aCW,h.few,?_,h.aDn,h.each,h.aDo⟩,lR _,fun c a=>⟨c,a,iD.refl c⟩⟩;simp only[aL,List.length_singleton];have h7:rS s o.aCQ o.aC4=false:=by simpa using j
   have h8:¬64<=s.aCX.length:=fun h=>this ⟨h,h7⟩
   omega
 rw[iN h6];by_cases h7:o.aCJ=7
 .rw[iP h7];split
  .exact⟨⟨h.aCR,by have:=h.aCW;show 0<=s.aCW+1;omega,h.few,h.aCX,h.aDn,h.each,h.aDo⟩,lR _,fun c a=>⟨c,a,iD.refl c⟩⟩
  .exact⟨h,lX.refl s⟩
 rw[iN h7];by_cases h8:o.aCJ=8
 .rw[iP h8];have h9:=D h8;have h10:=wI d h8;have h11:=h.aCR;refine⟨⟨⟨by show 0<=s.aCR+o.aC6;omega,by show s.aCR+o.aC6<=_;omega⟩,h.aCW,h.few,h.aCX,h.aDn,fun c a=>(h.each c a).more (by show s.aCR<=s.aCR+o.aC6;omega),fun r l=> ?_⟩,lR _,fun c a=>⟨c,a,iD.refl c⟩⟩;have:=h.aDo r l;exact⟨this.1,by show r.aCR<=s.aCR+o.aC6;omega⟩
 rw[iN h8];exact⟨h,lX.refl s⟩
theorem Dd{s t u:Sto}{k:Int}{a:bY}(h:lX s t)(f:jP k a t.aCK u.aCK):lX s u:=by
 refine⟨by rw[f.1];exact h.1,fun c g=> ?_⟩;obtain⟨d,j,b⟩:=h.2 c g;obtain⟨i,l,rfl⟩:=List.getElem_of_mem j;obtain⟨L,e,_⟩:=f.2 i _ (gE l);exact⟨_,List.mem_of_getElem? e,⟨b.id,b.aDb,b.aC5,b.log.trans (List.prefix_append _ _),b.shut⟩⟩
theorem YA(g:Bool)(s:Sto)(o:Op)(r:bY):lX s (if g=true then gB s o r else s):=by
 split
 .exact⟨lR _,fun c a=>⟨c,a,iD.refl c⟩⟩
 .exact lX.refl s
theorem De{s t u:Sto}(h:t.aCK=s.aCK)(k:lX t u):lX s u:=by
 refine⟨by rw[<-h];exact k.1,fun c a=>k.2 c (by rw[h];exact a)⟩
theorem Il(s:Sto)(o:Op)(h:AH s):AH (cP s o).1/\lX s (cP s o).1:=by
 have hw:=lV s o
 rcases a:cP s o with ⟨t,r,d,e⟩
 rw[a] at hw
 cases hw with
 |none _ _ he j _=>exact⟨h,lX.refl s⟩
 |some m l glass hidden v k i g c b f n=>
  dsimp only;have hm:=Ij h.1 glass o o.aC7;refine⟨⟨?_,b⟩,?_⟩
  .refine Db ?_ o _ l;split
   .exact(UO o hm).1
   .exact hm
  .refine Dd ?_ (uN o _ l _);split
   .exact De (tA glass s o o.aC7) (UO o hm).2
   .exact YA glass s o o.aC7
theorem Xy:AH mQ:=⟨⟨⟨qe,qe⟩,qe,qe,qe,List.Pairwise.nil,(fun c a=>by cases a),(fun r b=>by cases b)⟩,rfl⟩
end Go.Proofs.YtgoanbpcdhmfkaaGreatDoor
