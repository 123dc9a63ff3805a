/- Lemmas. -/
import Derived.Test.YthcgdgkpgdjahaaGreatDoorMak
import Derived.Lib.Overlaps
import Derived.Shelf.Spec.SlicesInsert
namespace Go.Proofs.YthcgdgkpgdjahaaGreatDoor
open Go.RowKit
set_option linter.unusedVariables false
set_option linter.unusedSimpArgs false
set_option maxHeartbeats 16000000
open _root_.Go.Proofs.Tryz
set_option maxRecDepth 20000
theorem QCB{p:Prop}(h:p:=by
 rw[hR];simp only[aL,List.length_take,Array.length_toList,Builtin.zeroCells,Array.size_map,Array.size_range,h6];omega):p:=h
theorem QCs{p:Prop}(h:p:=by
 rw[hR,List.append_assoc,List.take_append_of_le_length (by rw[List.length_take];omega)];exact List.take_of_length_le (by rw[List.length_take];omega)):p:=h
theorem QBF{p:Prop}(h:p:=by
 have ha:(⟨g,0,none⟩:Addr).add j=⟨g,0+j,none⟩:=by unfold Addr.add;split<;>simp_all
 rw[ha,Nat.zero_add];rw[List.getElem?_take] at hj;split at hj
 .show w.cell? ⟨g,j,none⟩=some v;simp only[World.cell?,hg'];simpa using hxc j v hj
 .cases hj):p:=h
theorem QBn{p:Prop}(h:p:=by
 subst h1 h2
 apply List.ext_getElem?
 intro j;simp only[List.getElem?_append,List.getElem?_take,List.getElem?_drop,aL,List.length_take,List.length_drop,aL]
 repeat' split
 all_goals (first|rfl|omega|(congr 1;omega)|skip)
 all_goals (first|(rw[List.getElem?_eq_none qo])|(rw[List.getElem?_eq_none qo,List.getElem?_eq_none qo])|skip)):p:=h
theorem QBj{p:Prop}(h:p:=by
 rw[h8] at h9;refine⟨some ⟨g,0,none⟩,c,rfl,⟨?_,.inr ⟨g,c,_,rfl,hbg,HW5.o,hroom,hcm,?_,?_⟩⟩,hgr,.inl rfl⟩
 .rw[<-h9,List.length_take];simp only[aL,List.length_take,List.length_drop];have:=HL1.o;have:=HCS.o;omega
 .simp only[List.size_toArray,aL,List.length_take,List.length_drop];have:=HL1.o;have:=HCS.o;omega
 .rw[List.toList_toArray,e1];exact h9):p:=h
theorem QAW{p:Prop}(h:p:=by
 have hi1:i<9223372036854775807:=qo;go_enter func91,ntmps91;go_wp2_with (at_builtin;refine fS AG rfl (.tmp 23) (.tmp 24) rfl base _ i xs rfl HO.o (some ⟨vb,0,none⟩) 1 vc CS rfl (qA HC.o) HSL.o H1.o (by unfold maxLen;omega) qo hbase ?_;intro A' c' w4 hw4 hg4 hat4;have H4:=aA hw4;have H5:=aA hg4;have H6:=aA hat4;clear hw4 hg4 hat4)
 go_ret;unfold pW;refine⟨A',c',rfl,?_,H5.o,H6.o⟩;have hl:xs.length=i * 5:=HO.o.1;rw[List.take_of_length_le qo,List.drop_of_length_le qo,List.append_nil];exact H4.o):p:=h
theorem QAV{p:Prop}(h:p:=by
 have hi1:i<9223372036854775807:=qo;go_enter func150,ntmps150;go_wp2_with (at_builtin;refine fS xI rfl (.tmp 23) (.tmp 24) rfl base _ i xs rfl HO.o (some ⟨vb,0,none⟩) 1 vc CS rfl (qA HC.o) HSL.o H1.o (by unfold maxLen;omega) qo hbase ?_;intro A' c' w4 hw4 hg4 hat4;have H4:=aA hw4;have H5:=aA hg4;have H6:=aA hat4;clear hw4 hg4 hat4)
 go_ret;unfold pW;refine⟨A',c',rfl,?_,H5.o,H6.o⟩;have hl:xs.length=i * 4:=HO.o.1;rw[List.take_of_length_le qo,List.drop_of_length_le qo,List.append_nil];exact H4.o):p:=h
theorem QAD{p:Prop}(h:p:=by
 rw[HRT.o] at h9;refine⟨some ⟨w.heap.size,0,none⟩,G,rfl,⟨?_,.inr ⟨w.heap.size,G,_,rfl,hbase,HW6.o,HGn.o,HGm.o,?_,?_⟩⟩,?_,.inr rfl⟩
 .rw[<-h9,List.length_take];simp only[aL,List.length_take,List.length_drop];have:=HL1.o;have:=HDL.o;have:=HXL.o;have:=HGn.o;omega
 .simp only[List.size_toArray,aL,List.length_take,List.length_drop];have:=HL1.o;have:=HDL.o;have:=HXL.o;have:=HGn.o;omega
 .rw[List.toList_toArray,e1,e2];exact h9
 .have hB:=HW1B.o;have h5:=HG5.o;have h6:=HG6.o;refine⟨h6.os.trans (h5.os.trans hB.os),h6.tape.trans (h5.tape.trans hB.tape),h6.output.trans (h5.output.trans hB.output),lT hB.size (lT h5.size h6.size),fun k hk _=> ?_⟩;have h51:=h5.block k (lL hk hB.size) (fun e=>by injection e;omega);exact(h6.block k (lL hk (lT hB.size h5.size)) (fun e=>by injection e;omega)).trans (h51.trans (hB.block k hk))):p:=h
section
variable {P:Program}
theorem Ko(w:World)(d B ty elem:TypeId)(s g o c m:Nat)(a:Addr)(l A:Nat)(cur:Array Value)(t:TypeId)(k:Nat)(cs:List Value)
 (hu:P.underlying d=some (.slice elem))(f:(P.info? elem).map (·.size)=some s)
 (p:w.heap[g]? =some (.cells cur t (0,0)))(r:Nat.min l c=k)(x:cs.length=k * s)
 (y:∀j v,cs[j]? =some v->w.cell? (a.add j)=some v)(n:o+cs.length<=cur.size)(h1:∀v∈cs,v.oneCell'=true):
 (Builtin.copy_ #[d,B] ty #[.slice (some ⟨g,o,none⟩) c m,.slice (some a) l A]).run P w=
   .ok (goInt k) (w.setRow g (cur.toList.take o++cs++cur.toList.drop (o+cs.length)).toArray):=by
 have e:=run_loadCells_list (P:=P) w a cs y;have z:=run_storeCells_at P g o t cs 0 cur w p (by simpa using n) h1
 cases b:P.info? elem with
 |none=>simp[b] at f
 |some i=>
  have q:i.size=s:=by simpa [b] using f
  rw[x] at e;simp[Builtin.copy_,run_underlying hu,Builtin.lenOf,Builtin.firstCells,sizeOf,typeInfo,b,q,r,e,z]
theorem VW{w:World}(g:Nat)(cs:Array Value):w.grownBy (w.setRow g cs) (some g):=⟨rfl,rfl,rfl,by simp[World.setRow],fun k _ a=>setRow_other w g k cs (fun e=>a (by rw[e]))⟩
theorem VX{w:World}{o:Oper}{a:Act}{K:Act->World->Prop}{Q:Exit->Act->World->Prop}(d x:Operand)(f q:TypeId)
 (D:o.op=.call {callee:= .builtin .copy,args:=#[d,x],argTypes:=#[f,q]})(elem:TypeId)(s:Nat)(hu:P.underlying f=some (.slice elem))(G:(P.info? elem).map (·.size)=some s)
 (g b off i e m b' r c l p:Nat)(y:a.eval d=.slice (some ⟨b,i,none⟩) e m)(J:a.eval x=.slice (some ⟨b',c,none⟩) l p)(E:i=off)(H:c=r)(A:b=g)
 (cur:List Value)(t:TypeId)(n:w.heap[g]? =some (.cells cur.toArray t (0,0)))(k:Nat)(cs:List Value)(B:Nat.min l e=k)(C:cs.length=k * s)
 (I:∀j v,cs[j]? =some v->w.cell? ⟨b',r+j,none⟩=some v)(z:off+cs.length<=cur.length)(h1:∀v∈cs,v.oneCell'=true)
 (h:∀w',Hid (w'.heap[g]? =some (.cells (cur.take off++cs++cur.drop (off+cs.length)).toArray t (0,0)))->w.grownBy w' (some g)->K (a.put o.dst (goInt k)) w'):o.wp P a w K Q:=by
 subst E H A;have F:=Ko (P:=P) w f q o.type elem s b i e m ⟨b',c,none⟩ l p cur.toArray t k cs hu G n B C
  (fun j v hj=>by
    have ha:(⟨b',c,none⟩:Addr).add j=⟨b',c+j,none⟩:=by unfold Addr.add;split<;>simp_all
    rw[ha];exact I j v hj) (by simpa using z) h1
 unfold Oper.wp execOp;simp only[D,resolve,invoke,builtin,Sem.run_bind,Sem.run_pure,Result.andThen_ok,List.map_toArray,List.map_cons,List.map_nil,y,J,F];exact h _ (setRow_heap w b _ _ t _ n) (VW b _)
theorem sL{w:World}{ops:Array Oper}{rest:List Oper}{o:Oper}{a:Act}{Q:Exit->Act->World->Prop}(B:o.guard=none)(d x:Operand)(c q:TypeId)
 (F:o.op=.call {callee:= .builtin .copy,args:=#[d,x],argTypes:=#[c,q]})(elem:TypeId)(s:Nat)(hu:P.underlying c=some (.slice elem))(H:(P.info? elem).map (·.size)=some s)
 (g e off f b n b' l m i p:Nat)(y:a.eval d=.slice (some ⟨e,f,none⟩) b n)(K:a.eval x=.slice (some ⟨b',m,none⟩) i p)(G:f=off)(I:m=l)(C:e=g)
 (cur:List Value)(t:TypeId)(A:w.heap[g]? =some (.cells cur.toArray t (0,0)))(k:Nat)(cs:List Value)(D:Nat.min i b=k)(E:cs.length=k * s)
 (J:∀j v,cs[j]? =some v->w.cell? ⟨b',l+j,none⟩=some v)(z:off+cs.length<=cur.length)(h1:∀v∈cs,v.oneCell'=true)
 (h:∀w',Hid (w'.heap[g]? =some (.cells (cur.take off++cs++cur.drop (off+cs.length)).toArray t (0,0)))->w.grownBy w' (some g)->wpList P ops Q rest (a.put o.dst (goInt k)) w'):wpList P ops Q (o::rest) a w:=
 wpList_plain B fun _ r=>VX d x c q F elem s hu H g e off f b n b' l m i p y K G I C cur t A k cs D E J z h1 fun w' h2 h3=>r _ _ (h w' h2 h3)
theorem vM{w:World}{ops:Array Oper}{o:Oper}{a:Act}{K:Act->World->Prop}{Q:Exit->Act->World->Prop}{E:Prop}(A:o.guard=none)(d x:Operand)(c q:TypeId)
 (F:o.op=.call {callee:= .builtin .copy,args:=#[d,x],argTypes:=#[c,q]})(elem:TypeId)(s:Nat)(hu:P.underlying c=some (.slice elem))(H:(P.info? elem).map (·.size)=some s)
 (g e off f b n b' l m i p:Nat)(r:a.eval d=.slice (some ⟨e,f,none⟩) b n)(L:a.eval x=.slice (some ⟨b',m,none⟩) i p)(G:f=off)(I:m=l)(B:e=g)
 (cur:List Value)(t:TypeId)(z:w.heap[g]? =some (.cells cur.toArray t (0,0)))(k:Nat)(cs:List Value)(C:Nat.min i b=k)(D:cs.length=k * s)
 (J:∀j v,cs[j]? =some v->w.cell? ⟨b',l+j,none⟩=some v)(y:off+cs.length<=cur.length)(h1:∀v∈cs,v.oneCell'=true)
 (h:∀w',Hid (w'.heap[g]? =some (.cells (cur.take off++cs++cur.drop (off+cs.length)).toArray t (0,0)))->w.grownBy w' (some g)->K (a.put o.dst (goInt k)) w'):if Region.wanted o (yielded ops a.tmps)=true then Oper.wp P o a w K Q else E:=by
 rw[iP (by simp[Region.wanted,A])];exact VX d x c q F elem s hu H g e off f b n b' l m i p r L G I B cur t z k cs C D J y h1 h
end
theorem QI{C D cs:List Value}{a s L:Nat}(hC:L+s<=C.length)(c:D.length=L - a)(ha:a<=L)(d:cs.length=s){C1 b:List Value}(h1:C1=C.take (a+s)++D++C.drop (a+s+D.length))(h2:b=C1.take a++cs++C1.drop (a+cs.length)):b.take (L+s)=C.take a++cs++D:=by
 exact QBn
theorem VY{C D cs:List Value}{a s L:Nat}(hC:L+s<=C.length)(c:D.length=L - a)(ha:a<=L)(d:cs.length=s){C1 b:List Value}(h1:C1=C.take a++cs++C.drop (a+cs.length))(h2:b=C1.take (a+s)++D++C1.drop (a+s+D.length)):b.take (L+s)=C.take a++cs++D:=by
 exact QBn
def pW(base:Nat)(e:TypeId)(s n i:Nat)(v:Value)(xs cs:List Value)(w:World)(o:Ending)(w':World):Prop:=∃A a,o=.returned (.slice A (n+1) a)/\w'.ownsRow base e s (.slice A (n+1) a) (n+1) (xs.take (i * s)++cs++xs.drop (i * s))/\w.grownBy w' v.ownBlock/\((Value.slice A (n+1) a).ownBlock=v.ownBlock\/(Value.slice A (n+1) a).ownBlock=some w.heap.size)
theorem SK(w:World)(base:Nat)(a:oD)(n c i:Nat)(xs CS:List Value)(vb vc:Nat)(ty:TypeId)
 (f:w.ownsRow base 185 4 (.slice a n c) n xs)(hi:i<=n)(hn:n<=1000000)(hbase:base<=w.heap.size)(b:w.heap[vb]? =some (.cells CS.toArray ty (0,0)))(d:CS.length=4)
 (h1:∀u∈CS,u.oneCell'=true)(x:∀u∈xs,u.oneCell'=true)(an:(Value.slice a n c).ownBlock≠some vb):
 Calls prog 150 #[.slice a n c,.int .i64 i,.slice (some ⟨vb,0,none⟩) 1 vc] w (pW base 185 4 n i (.slice a n c) xs CS w):=by
 have Y:=aD b;have H:Sl w w.heap.size (some ⟨vb,0,none⟩) CS:=fun _=>⟨vb,0,rfl,Y,fun j u hu=>by simp only[World.cell?,b,Nat.zero_add];simpa using hu⟩
 by_cases bc:i=n
 .subst bc;obtain⟨HO,HSL,HV,H1,HC⟩:=gJ f H b h1 d;clear f H b h1 x an d;by_cases W:c=i
  .have bb:=W.symm;clear W;subst bb;exact QAV
  .skip
   exact QAV
 .have bo:i<n:=qo
  rcases f.2 with ⟨e1,e2⟩|⟨g,cap,cur,e1,hbg,hg,bp,hcm,ag,al⟩
  .omega
  injection e1 with e1 e2 e3;subst e1 e3;have aq:¬vb=g:=fun e=>an (by rw[e];rfl)
  have q:=f.1;obtain⟨C,hC⟩:=xE cur.toList;have hg':w.heap[g]? =some (.cells C.toArray 185 (0,0)):=by rw[hC,Array.toArray_toList];exact hg
  have y:C.length=c * 4:=by rw[hC,Array.length_toList];exact ag
  have J:C.take (n * 4)=xs:=by rw[hC];exact al
  have hxc:∀j u,xs[j]? =some u->C[j]? =some u:=fun j u hu=>by
   rw[<-J,List.getElem?_take] at hu;split at hu
   .exact hu
   .cases hu
  clear hC hg al ag;have bm:c<=9223372036854775807:=by unfold maxLen at hcm;omega
  have ai:=aD hg';have F:(xs.drop (i * 4)).length=(n - i) * 4:=by rw[List.length_drop,q,Nat.sub_mul]
  have E:∀u∈xs.drop (i * 4),u.oneCell'=true:=fun u hu=>x u (List.mem_of_mem_drop hu)
  have I:(prog.info? 185).map (·.size)=some 4:=by obtain⟨i0,z0,h2,_,h4,_⟩:=xI.info;rw[h2];simp[h4]
  have m:=xI.under;have K:∀j u,CS[j]? =some u->w.cell? ⟨vb,0+j,none⟩=some u:=fun j u hu=>by simp only[World.cell?,b,Nat.zero_add];simpa using hu
  have bs:IntKind.i64.wrap ((i:Int)+1)=(i:Int)+1:=by rw[IntKind.wrap_i64];omega
  have bh:(0:Int)<=(i:Int)+1:=qo;have bn:i<=n:=qo;have br:((i:Int)+1).toNat=i+1:=qo;have bq:¬((i:Int)=(n:Int)):=qo;have bk:(i:Int)<=(n:Int)+1:=qo;by_cases hroom:n+1<=c
  .have bj:¬(c=i+1):=qo;have bl:¬(c=i):=qo;have bd:∀Z S,(callFunc 200 #[.slice (some ⟨vb,0,none⟩) 1 vc,.slice (some ⟨g,(i+1) * 4,none⟩) Z S]).run prog w=.ok (.value (.bool false)) w:=fun Z S=>by
    rw[run_callFunc_extern func200 (by kernel_rfl) (by kernel_rfl) (by kernel_rfl) (e:=Extern.SlicesOverlaps.overlaps #[110,110] #[4]) (by kernel_rfl),
     Lib.run_overlaps_apart w 110 4 185 m 4 (by obtain⟨i0,z0,h2,_,h4,_⟩:=xI.info;intro w9;simp[sizeOf,typeInfo,h2,h4]) ⟨vb,0,none⟩ ⟨g,(i+1) * 4,none⟩ 1 vc Z S aq ty 185 CS.length (c * 4)
      (by simp[World.shape?,b]) (by simp[World.shape?,hg',y]) qo (aR b 0) (aR b _)]
    rfl
   have r:Hid (∀j u,(xs.drop (i * 4))[j]? =some u->w.cell? ⟨g,i * 4+j,none⟩=some u):=aA (fun j u hu=>by rw[List.getElem?_drop] at hu;simp only[World.cell?,hg'];simpa using hxc _ u hu);obtain⟨N,HV,HG,HX,O,H1,ay,ax⟩:=TH y b hg' hxc E h1 K J;obtain⟨HCS,HDL,HXL⟩:=aZ d F q;clear f b hg' y hxc E h1 K J d F q H x;go_enter func150,ntmps150;go_wp2_with (simp only[bd])
   go_region_law (refine vM rfl _ _ _ _ rfl 185 4 m I g g ((i+1) * 4) ((i+1) * 4) (n - i) (c - (i+1)) g (i * 4) (i * 4) (n+1 - i) (c - i) (by simp[Act.eval,Act.put]) (by simp[Act.eval,Act.put]) rfl rfl rfl C 185 HG.o (n - i) (xs.drop (i * 4)) (by simp only[Nat.min_def];split<;>omega) HDL.o r.o (qD HDL.o N.o) O.o ?_;intro w4 hw4 hg4)
   obtain⟨C1,T⟩:=xE (C.take ((i+1) * 4)++xs.drop (i * 4)++C.drop ((i+1) * 4+(xs.drop (i * 4)).length));have a7:Hid (w4.heap[g]? =some (.cells C1.toArray 185 (0,0))):=aA (by rw[T];exact hw4.o);have aa:=aA T;have l:=aA hg4;have a1:Hid (∀j u,CS[j]? =some u->w4.cell? ⟨vb,0+j,none⟩=some u):=aA (fun j u hu=>(World.cell?_of_block (a:=⟨vb,0+j,none⟩) (hg4.block vb Y (fun e=>aq (by injection e)))).trans (ay.o j u hu));clear hw4 hg4 T;have HL1:Hid (C1.length=c * 4):=aA (by rw[aa.o];simp only[aL,List.length_take,List.length_drop];have:=N.o;have:=HXL.o;omega);go_wp2_with (refine sL rfl (.tmp 80) (.tmp 81) _ _ rfl 185 4 m I g _ (i * 4) _ _ _ _ 0 _ _ _ rfl rfl rfl rfl rfl C1 185 a7.o 1 CS (by simp only[Nat.min_def];split<;>omega) (qA HCS.o) a1.o (qD HL1.o HCS.o) H1.o ?_;intro M p o;have HW5:=aA p.o;have HG5:=aA o;clear p o)
   go_ret;unfold pW;have hgr:=(⟨l.o.os,l.o.tape,l.o.output,l.o.size,l.o.block⟩:w.grownBy w4 (some g)).trans HG5.o;have e1:(n+1) * 4=n * 4+4:=qo;have e2:(i+1) * 4=i * 4+4:=qo;have h9:=QI (C:=C) (D:=xs.drop (i * 4)) (cs:=CS) (a:=i * 4) (s:=4) (L:=n * 4) (qA N.o) (qA HDL.o) qo HCS.o (C1:=C1) (by rw[aa.o,e2]) rfl;have h8:C.take (i * 4)=xs.take (i * 4):=by rw[<-ax.o,List.take_take,Nat.min_eq_left qo]
   exact QBj
  .have W:¬(c=i):=qo;obtain⟨i0,z0,h2,h3,h4,h5,h6⟩:=xI.info;have hold:(Builtin.firstCells i0.size i (.slice (some ⟨g,0,none⟩) i c)).run prog w.drew=.ok (xs.take (i * 4)).toArray w.drew:=by
    rw[h4];refine run_firstCells_some w.drew 4 i ⟨g,0,none⟩ i c (xs.take (i * 4)) (by rw[List.length_take];omega) (fun j v hj=> ?_);exact QBF
   have X:i+(n+1 - i)=n+1:=qo;have aj:(n:Int)+1 - (i:Int)=((n+1 - i:Nat):Int):=qo;obtain⟨G,z⟩:=xE (grownCap w (n+1) c 185);obtain⟨R,hR⟩:∃R:List Value,R=xs.take (i * 4)++(Builtin.zeroCells z0.cells (n+1 - i)).toList++(Builtin.zeroCells z0.cells (G - (n+1))).toList:=⟨_,rfl⟩;obtain⟨t,B⟩:=xE (w.drew.alloc (.cells R.toArray 185));have ak:∀ty,(Builtin.append_ #[110,3] ty #[.slice (some ⟨g,0,none⟩) i c,.int .i64 ((n:Int)+1 - (i:Int))]).run prog w=.ok (.slice (some ⟨w.heap.size,0,none⟩) (n+1) G) t:=fun ty=>by
    have h:=Lib.run_append_grow_zeros w 110 3 ty 185 i0 z0 .i64 .i64 xI.under (by kernel_rfl) h2 h3 (some ⟨g,0,none⟩) i c (xs.take (i * 4)) hold (n+1 - i) qo qo qo qo (by rw[h5];omega) (by rw[h5,X];exact growslice_fits qo qo);rw[X,<-z] at h;rw[aj,h,B,hR]
    congr 3
    simp
   have ba:n+1<=G:=by rw[z];exact grownCap_ge w _ _ _
   have U:G<=maxLen:=by rw[z];exact grownCap_le_maxLen w (n+1) c _ (by unfold maxLen;omega)
   have ab:R.length=G * 4:=by
    exact QCB
   have ae:t.heap[w.heap.size]? =some (.cells R.toArray 185 (0,0)):=by rw[B];exact heap_alloc_new w.drew _
   have V:Below w.heap.size w t:=by
    have h:=aB w.drew (.cells R.toArray 185);rw[B];exact⟨h.os,h.tape,h.output,h.size,h.block⟩
   have ad:R.take (i * 4)=xs.take (i * 4):=by
    exact QCs
   have ao:∀j u,CS[j]? =some u->t.cell? ⟨vb,0+j,none⟩=some u:=fun j u hu=>(World.cell?_of_block (a:=⟨vb,0+j,none⟩) (V.block vb Y)).trans (K j u hu)
   have bf:¬(G=i):=qo;have bg:¬(G=i+1):=qo;have be:G<=9223372036854775807:=by unfold maxLen at U;omega
   have r:Hid (∀j u,(xs.drop (i * 4))[j]? =some u->w.cell? ⟨g,i * 4+j,none⟩=some u):=aA (fun j u hu=>by rw[List.getElem?_drop] at hu;simp only[World.cell?,hg'];simpa using hxc _ u hu);obtain⟨av,HGn,HGm,P,a6,HW1B,HRT,az⟩:=TH ak ba U ab ae V ad ao;obtain⟨O,H1,HCS,HDL,HXL⟩:=gJ E h1 d F q;clear f b hg' y hxc E h1 K J d F q H x hold X aj z hR B ak U ab ae V ad ao h2 h3 h4 h5 h6;go_enter func150,ntmps150;go_wp2_with (first
    |(at_builtin;refine Lib.wpList_append_run _ rfl _ _ _ _ rfl _ _ rfl rfl _ _ (av.o _) ?_)
    |(refine sL rfl (.tmp 43) (.tmp 44) _ _ rfl 185 4 m I w.heap.size _ (i * 4) _ _ _ _ 0 _ _ _ rfl rfl rfl rfl rfl R 185 a6.o 1 CS (by simp only[Nat.min_def];split<;>omega) (qA HCS.o) az.o (qF P.o HCS.o HGn.o) H1.o ?_;intro M p o;have HW5:=aA p.o;have HG5:=aA o;clear p o))
   obtain⟨Q,A⟩:=xE (R.take (i * 4)++CS++R.drop (i * 4+CS.length));have au:=aA A;have a8:Hid (M.heap[w.heap.size]? =some (.cells Q.toArray 185 (0,0))):=aA (by rw[A];exact HW5.o);have af:M.heap[g]? =w.heap[g]? :=(HG5.o.block g (lL ai HW1B.o.size) (fun e=>by injection e;omega)).trans (HW1B.o.block g ai);have aw:Hid (∀j u,(xs.drop (i * 4))[j]? =some u->M.cell? ⟨g,i * 4+j,none⟩=some u):=aA (fun j u hu=>(World.cell?_of_block (a:=⟨g,i * 4+j,none⟩) af).trans (r.o j u hu));have HL1:Hid (Q.length=G * 4):=aA (by rw[A];simp only[aL,List.length_take,List.length_drop];have:=P.o;have:=HCS.o;have:=HGn.o;omega);clear r af A HW5;go_region_law (refine vM rfl _ _ _ _ rfl 185 4 m I w.heap.size w.heap.size ((i+1) * 4) ((i+1) * 4) (n - i) (G - (i+1)) g (i * 4) (i * 4) (n - i) (c - i) (by simp[Act.eval,Act.put]) (by simp[Act.eval,Act.put]) rfl rfl rfl Q 185 a8.o (n - i) (xs.drop (i * 4)) (by simp only[Nat.min_def];split<;>omega) HDL.o aw.o (qF HDL.o HL1.o HGn.o) O.o ?_;intro w6 ar ah;have HW6:=aA ar.o;have HG6:=aA ah;clear ar ah)
   go_wp2;go_ret;unfold pW;have e1:(n+1) * 4=n * 4+4:=qo;have e2:(i+1) * 4=i * 4+4:=qo;have h9:=VY (C:=R) (D:=xs.drop (i * 4)) (cs:=CS) (a:=i * 4) (s:=4) (L:=n * 4) (qD P.o HGn.o) (qA HDL.o) qo HCS.o au.o rfl;exact QAD
theorem SL(w:World)(base:Nat)(a:oD)(n c i:Nat)(xs CS:List Value)(vb vc:Nat)(ty:TypeId)
 (f:w.ownsRow base 113 5 (.slice a n c) n xs)(hi:i<=n)(hn:n<=1000000)(hbase:base<=w.heap.size)(b:w.heap[vb]? =some (.cells CS.toArray ty (0,0)))(d:CS.length=5)
 (h1:∀u∈CS,u.oneCell'=true)(x:∀u∈xs,u.oneCell'=true)(an:(Value.slice a n c).ownBlock≠some vb):
 Calls prog 91 #[.slice a n c,.int .i64 i,.slice (some ⟨vb,0,none⟩) 1 vc] w (pW base 113 5 n i (.slice a n c) xs CS w):=by
 have Y:=aD b;have H:Sl w w.heap.size (some ⟨vb,0,none⟩) CS:=fun _=>⟨vb,0,rfl,Y,fun j u hu=>by simp only[World.cell?,b,Nat.zero_add];simpa using hu⟩
 by_cases bc:i=n
 .subst bc;obtain⟨HO,HSL,HV,H1,HC⟩:=gJ f H b h1 d;clear f H b h1 x an d;by_cases W:c=i
  .have bb:=W.symm;clear W;subst bb;exact QAW
  .skip
   exact QAW
 .have bo:i<n:=qo
  rcases f.2 with ⟨e1,e2⟩|⟨g,cap,cur,e1,hbg,hg,bp,hcm,ag,al⟩
  .omega
  injection e1 with e1 e2 e3;subst e1 e3;have aq:¬vb=g:=fun e=>an (by rw[e];rfl)
  have q:=f.1;obtain⟨C,hC⟩:=xE cur.toList;have hg':w.heap[g]? =some (.cells C.toArray 113 (0,0)):=by rw[hC,Array.toArray_toList];exact hg
  have y:C.length=c * 5:=by rw[hC,Array.length_toList];exact ag
  have J:C.take (n * 5)=xs:=by rw[hC];exact al
  have hxc:∀j u,xs[j]? =some u->C[j]? =some u:=fun j u hu=>by
   rw[<-J,List.getElem?_take] at hu;split at hu
   .exact hu
   .cases hu
  clear hC hg al ag;have bm:c<=9223372036854775807:=by unfold maxLen at hcm;omega
  have ai:=aD hg';have F:(xs.drop (i * 5)).length=(n - i) * 5:=by rw[List.length_drop,q,Nat.sub_mul]
  have E:∀u∈xs.drop (i * 5),u.oneCell'=true:=fun u hu=>x u (List.mem_of_mem_drop hu)
  have I:(prog.info? 113).map (·.size)=some 5:=by obtain⟨i0,z0,h2,_,h4,_⟩:=AG.info;rw[h2];simp[h4]
  have m:=AG.under;have K:∀j u,CS[j]? =some u->w.cell? ⟨vb,0+j,none⟩=some u:=fun j u hu=>by simp only[World.cell?,b,Nat.zero_add];simpa using hu
  have bs:IntKind.i64.wrap ((i:Int)+1)=(i:Int)+1:=by rw[IntKind.wrap_i64];omega
  have bh:(0:Int)<=(i:Int)+1:=qo;have bn:i<=n:=qo;have br:((i:Int)+1).toNat=i+1:=qo;have bq:¬((i:Int)=(n:Int)):=qo;have bk:(i:Int)<=(n:Int)+1:=qo;by_cases hroom:n+1<=c
  .have bj:¬(c=i+1):=qo;have bl:¬(c=i):=qo;have bd:∀Z S,(callFunc 147 #[.slice (some ⟨vb,0,none⟩) 1 vc,.slice (some ⟨g,(i+1) * 5,none⟩) Z S]).run prog w=.ok (.value (.bool false)) w:=fun Z S=>by
    rw[run_callFunc_extern func147 (by kernel_rfl) (by kernel_rfl) (by kernel_rfl) (e:=Extern.SlicesOverlaps.overlaps #[50,50] #[4]) (by kernel_rfl),
     Lib.run_overlaps_apart w 50 4 113 m 5 (by obtain⟨i0,z0,h2,_,h4,_⟩:=AG.info;intro w9;simp[sizeOf,typeInfo,h2,h4]) ⟨vb,0,none⟩ ⟨g,(i+1) * 5,none⟩ 1 vc Z S aq ty 113 CS.length (c * 5)
      (by simp[World.shape?,b]) (by simp[World.shape?,hg',y]) qo (aR b 0) (aR b _)]
    rfl
   have r:Hid (∀j u,(xs.drop (i * 5))[j]? =some u->w.cell? ⟨g,i * 5+j,none⟩=some u):=aA (fun j u hu=>by rw[List.getElem?_drop] at hu;simp only[World.cell?,hg'];simpa using hxc _ u hu);obtain⟨N,HV,HG,HX,O,H1,ay,ax⟩:=TH y b hg' hxc E h1 K J;obtain⟨HCS,HDL,HXL⟩:=aZ d F q;clear f b hg' y hxc E h1 K J d F q H x;go_enter func91,ntmps91;go_wp2_with (simp only[bd])
   go_region_law (refine vM rfl _ _ _ _ rfl 113 5 m I g g ((i+1) * 5) ((i+1) * 5) (n - i) (c - (i+1)) g (i * 5) (i * 5) (n+1 - i) (c - i) (by simp[Act.eval,Act.put]) (by simp[Act.eval,Act.put]) rfl rfl rfl C 113 HG.o (n - i) (xs.drop (i * 5)) (by simp only[Nat.min_def];split<;>omega) HDL.o r.o (qD HDL.o N.o) O.o ?_;intro w4 hw4 hg4)
   obtain⟨C1,T⟩:=xE (C.take ((i+1) * 5)++xs.drop (i * 5)++C.drop ((i+1) * 5+(xs.drop (i * 5)).length));have a7:Hid (w4.heap[g]? =some (.cells C1.toArray 113 (0,0))):=aA (by rw[T];exact hw4.o);have aa:=aA T;have l:=aA hg4;have a1:Hid (∀j u,CS[j]? =some u->w4.cell? ⟨vb,0+j,none⟩=some u):=aA (fun j u hu=>(World.cell?_of_block (a:=⟨vb,0+j,none⟩) (hg4.block vb Y (fun e=>aq (by injection e)))).trans (ay.o j u hu));clear hw4 hg4 T;have HL1:Hid (C1.length=c * 5):=aA (by rw[aa.o];simp only[aL,List.length_take,List.length_drop];have:=N.o;have:=HXL.o;omega);go_wp2_with (refine sL rfl (.tmp 80) (.tmp 81) _ _ rfl 113 5 m I g _ (i * 5) _ _ _ _ 0 _ _ _ rfl rfl rfl rfl rfl C1 113 a7.o 1 CS (by simp only[Nat.min_def];split<;>omega) (qA HCS.o) a1.o (qD HL1.o HCS.o) H1.o ?_;intro M p o;have HW5:=aA p.o;have HG5:=aA o;clear p o)
   go_ret;unfold pW;have hgr:=(⟨l.o.os,l.o.tape,l.o.output,l.o.size,l.o.block⟩:w.grownBy w4 (some g)).trans HG5.o;have e1:(n+1) * 5=n * 5+5:=qo;have e2:(i+1) * 5=i * 5+5:=qo;have h9:=QI (C:=C) (D:=xs.drop (i * 5)) (cs:=CS) (a:=i * 5) (s:=5) (L:=n * 5) (qA N.o) (qA HDL.o) qo HCS.o (C1:=C1) (by rw[aa.o,e2]) rfl;have h8:C.take (i * 5)=xs.take (i * 5):=by rw[<-ax.o,List.take_take,Nat.min_eq_left qo]
   exact QBj
  .have W:¬(c=i):=qo;obtain⟨i0,z0,h2,h3,h4,h5,h6⟩:=AG.info;have hold:(Builtin.firstCells i0.size i (.slice (some ⟨g,0,none⟩) i c)).run prog w.drew=.ok (xs.take (i * 5)).toArray w.drew:=by
    rw[h4];refine run_firstCells_some w.drew 5 i ⟨g,0,none⟩ i c (xs.take (i * 5)) (by rw[List.length_take];omega) (fun j v hj=> ?_);exact QBF
   have X:i+(n+1 - i)=n+1:=qo;have aj:(n:Int)+1 - (i:Int)=((n+1 - i:Nat):Int):=qo;obtain⟨G,z⟩:=xE (grownCap w (n+1) c 113);obtain⟨R,hR⟩:∃R:List Value,R=xs.take (i * 5)++(Builtin.zeroCells z0.cells (n+1 - i)).toList++(Builtin.zeroCells z0.cells (G - (n+1))).toList:=⟨_,rfl⟩;obtain⟨t,B⟩:=xE (w.drew.alloc (.cells R.toArray 113));have ak:∀ty,(Builtin.append_ #[50,3] ty #[.slice (some ⟨g,0,none⟩) i c,.int .i64 ((n:Int)+1 - (i:Int))]).run prog w=.ok (.slice (some ⟨w.heap.size,0,none⟩) (n+1) G) t:=fun ty=>by
    have h:=Lib.run_append_grow_zeros w 50 3 ty 113 i0 z0 .i64 .i64 AG.under (by kernel_rfl) h2 h3 (some ⟨g,0,none⟩) i c (xs.take (i * 5)) hold (n+1 - i) qo qo qo qo (by rw[h5];omega) (by rw[h5,X];exact growslice_fits qo qo);rw[X,<-z] at h;rw[aj,h,B,hR]
    congr 3
    simp
   have ba:n+1<=G:=by rw[z];exact grownCap_ge w _ _ _
   have U:G<=maxLen:=by rw[z];exact grownCap_le_maxLen w (n+1) c _ (by unfold maxLen;omega)
   have ab:R.length=G * 5:=by
    exact QCB
   have ae:t.heap[w.heap.size]? =some (.cells R.toArray 113 (0,0)):=by rw[B];exact heap_alloc_new w.drew _
   have V:Below w.heap.size w t:=by
    have h:=aB w.drew (.cells R.toArray 113);rw[B];exact⟨h.os,h.tape,h.output,h.size,h.block⟩
   have ad:R.take (i * 5)=xs.take (i * 5):=by
    exact QCs
   have ao:∀j u,CS[j]? =some u->t.cell? ⟨vb,0+j,none⟩=some u:=fun j u hu=>(World.cell?_of_block (a:=⟨vb,0+j,none⟩) (V.block vb Y)).trans (K j u hu)
   have bf:¬(G=i):=qo;have bg:¬(G=i+1):=qo;have be:G<=9223372036854775807:=by unfold maxLen at U;omega
   have r:Hid (∀j u,(xs.drop (i * 5))[j]? =some u->w.cell? ⟨g,i * 5+j,none⟩=some u):=aA (fun j u hu=>by rw[List.getElem?_drop] at hu;simp only[World.cell?,hg'];simpa using hxc _ u hu);obtain⟨av,HGn,HGm,P,a6,HW1B,HRT,az⟩:=TH ak ba U ab ae V ad ao;obtain⟨O,H1,HCS,HDL,HXL⟩:=gJ E h1 d F q;clear f b hg' y hxc E h1 K J d F q H x hold X aj z hR B ak U ab ae V ad ao h2 h3 h4 h5 h6;go_enter func91,ntmps91;go_wp2_with (first
    |(at_builtin;refine Lib.wpList_append_run _ rfl _ _ _ _ rfl _ _ rfl rfl _ _ (av.o _) ?_)
    |(refine sL rfl (.tmp 43) (.tmp 44) _ _ rfl 113 5 m I w.heap.size _ (i * 5) _ _ _ _ 0 _ _ _ rfl rfl rfl rfl rfl R 113 a6.o 1 CS (by simp only[Nat.min_def];split<;>omega) (qA HCS.o) az.o (qF P.o HCS.o HGn.o) H1.o ?_;intro M p o;have HW5:=aA p.o;have HG5:=aA o;clear p o))
   obtain⟨Q,A⟩:=xE (R.take (i * 5)++CS++R.drop (i * 5+CS.length));have au:=aA A;have a8:Hid (M.heap[w.heap.size]? =some (.cells Q.toArray 113 (0,0))):=aA (by rw[A];exact HW5.o);have af:M.heap[g]? =w.heap[g]? :=(HG5.o.block g (lL ai HW1B.o.size) (fun e=>by injection e;omega)).trans (HW1B.o.block g ai);have aw:Hid (∀j u,(xs.drop (i * 5))[j]? =some u->M.cell? ⟨g,i * 5+j,none⟩=some u):=aA (fun j u hu=>(World.cell?_of_block (a:=⟨g,i * 5+j,none⟩) af).trans (r.o j u hu));have HL1:Hid (Q.length=G * 5):=aA (by rw[A];simp only[aL,List.length_take,List.length_drop];have:=P.o;have:=HCS.o;have:=HGn.o;omega);clear r af A HW5;go_region_law (refine vM rfl _ _ _ _ rfl 113 5 m I w.heap.size w.heap.size ((i+1) * 5) ((i+1) * 5) (n - i) (G - (i+1)) g (i * 5) (i * 5) (n - i) (c - i) (by simp[Act.eval,Act.put]) (by simp[Act.eval,Act.put]) rfl rfl rfl Q 113 a8.o (n - i) (xs.drop (i * 5)) (by simp only[Nat.min_def];split<;>omega) HDL.o aw.o (qF HDL.o HL1.o HGn.o) O.o ?_;intro w6 ar ah;have HW6:=aA ar.o;have HG6:=aA ah;clear ar ah)
   go_wp2;go_ret;unfold pW;have e1:(n+1) * 5=n * 5+5:=qo;have e2:(i+1) * 5=i * 5+5:=qo;have h9:=VY (C:=R) (D:=xs.drop (i * 5)) (cs:=CS) (a:=i * 5) (s:=5) (L:=n * 5) (qD P.o HGn.o) (qA HDL.o) qo HCS.o au.o rfl;exact QAD
theorem ID{p:Prop}(h:p:=by
 exact⟨List.prefix_refl _,Int.le_refl _⟩):p:=h
theorem Ex(s:Sto)(o:Op)(what:bY):(mE s o what).aD1=s.aD1/\(mE s o what).aD0=s.aD0:=by
 unfold mE;dsimp only;split<;>exact⟨rfl,rfl⟩
theorem LM(o:Op)(d:Bool)(s:Sto)(x:Ob):(cU o d s x).aD1=s.aD1/\(cU o d s x).aD0=s.aD0:=by
 unfold cU;split
 .exact Ex _ _ _
 .split
  .exact⟨rfl,rfl⟩
  .split<;>exact⟨rfl,rfl⟩
theorem nF(o:Op)(d:Bool):∀(l:List Ob) (s:Sto),(l.foldl (cU o d) s).aD1=s.aD1/\(l.foldl (cU o d) s).aD0=s.aD0
 | [],_=>⟨rfl,rfl⟩
 |x::l,s=>⟨(nF o d l _).1.trans (LM o d s x).1,(nF o d l _).2.trans (LM o d s x).2⟩
theorem gY(g:Bool)(s:Sto)(o:Op)(r:bY):(if g=true then gG s o r else s).aD1=s.aD1/\(if g=true then gG s o r else s).aD0=s.aD0:=by split<;>exact⟨rfl,rfl⟩
theorem Ey(s:Sto)(o:Op):s.aD1 <+:(cT s o).aD1/\s.aD0<=(cT s o).aD0:=by
 unfold cT;dsimp only;split
 .exact ID
 split
 .exact ID
 split
 .exact ID
 split
 .exact ID
 split
 .exact ID
 split
 .split
  .exact ID
  .exact⟨List.prefix_append _ _,Int.le_refl _⟩
 split
 .split
  .exact⟨List.prefix_refl _,by show s.aD0<=s.aD0+1;omega⟩
  .exact ID
 split
 .exact ID
 .exact ID
theorem ZO(s:Sto)(o:Op):s.aD1 <+:(bO s o).1.aD1/\s.aD0<=(bO s o).1.aD0:=by
 have h:=pU s o
 rcases b:bO s o with ⟨t,r,d,e⟩
 rw[b] at h
 cases h with
 |none _ _ he k _=>exact⟨List.prefix_refl _,Int.le_refl _⟩
 |some m l glass hidden v n j g c i f p=>
  dsimp only;rw[(nF _ _ _ _).1,(nF _ _ _ _).2];by_cases a:(decide (m=(4,0))||glass)=true
  .rw[iP a];have h1:=Ey (if glass=true then gG s o o.aEc else s) o;rw[(gY glass s o o.aEc).1,(gY glass s o o.aEc).2] at h1;exact h1
  .rw[iN a,(gY glass s o o.aEc).1,(gY glass s o o.aEc).2];exact ID
theorem QBZ{p:Prop}(h:p:=by
 obtain⟨l,rfl,hl⟩:=h;obtain⟨m,rfl,hm⟩:=k;refine⟨l++m,by rw[List.append_assoc],fun n hn=> ?_⟩
 rcases List.mem_append.1 hn with hn|hn
 .exact hl n hn
 .exact hm n hn):p:=h
def pX(a b:List xY)(tick:Int):Prop:=∃l,b=a++l/\∀n∈l,n.aDX=tick
theorem pX.refl(a:List xY)(t:Int):pX a a t:=⟨[],qs,fun n h=>absurd h qs⟩
theorem pX.trans{a b c:List xY}{t:Int}(h:pX a b t)(k:pX b c t):pX a c t:=by
 exact QBZ
theorem VZ(s:Sto)(o:Op)(what:bY):(mE s o what).aDV=s.aDV/\(mE s o what).aDQ=s.aDQ:=by
 unfold mE;dsimp only;split<;>exact⟨rfl,rfl⟩
theorem QDg{p:Prop}(h:p:=by
 rintro⟨h1,h2,h3⟩;exact⟨qo,qo,fun c hc=>by have:=h3 c hc;simpa using this⟩):p:=h
theorem Kr(a:bY):¬a.toList<a.toList:=List.lt_irrefl _
theorem WA{a b c:bY}(h:a.toList<b.toList)(k:b.toList<c.toList):a.toList<c.toList:=List.lt_trans h k
theorem FT{a b:bY}(h:a.toList=b.toList):a=b:=by
 rw[Lib.toList_data,Lib.toList_data] at h;exact ByteArray.ext (Array.ext' h)
theorem Bt{a b:bY}:fK a b=true↔¬b.toList<a.toList:=by unfold fK;exact decide_eq_true_iff
theorem Rd(a:bY):fK a a=true:=Bt.2 (Kr a)
theorem Ks{a b:bY}:fK a b=false↔b.toList<a.toList:=by unfold fK;simp
theorem Re{a b:bY}(h:fK a b=true)(c:a≠b):a.toList<b.toList:=by
 rcases Decidable.em (a.toList<b.toList) with h1|h1
 .exact h1
 .exact absurd (FT (List.le_antisymm (Bt.1 h) h1)) c
def kT{α:Type}(key:α->ByteArray)(l:List α):Prop:=l.Pairwise (fun a b=>(key a).toList<(key b).toList)
theorem Ez{α:Type}{key:α->ByteArray}{l:List α}(h:kT key l){k:Nat}(a:k<l.length):l.findIdx (fun c=>fK (key l[k]) (key c))=k:=by
 rw[List.findIdx_eq a];refine⟨Rd _,fun j hj=> ?_⟩;exact Ks.2 (List.pairwise_iff_getElem.1 h j k qo a hj)
theorem AS{α:Type}{key:α->ByteArray}{l:List α}(h:kT key l)(x:α)(i:Nat)(g:l.findIdx (fun c=>fK (key x) (key c))=i)(q:∀c,l[i]? =some c->key c≠key x):kT key (l.take i++[x]++l.drop i):=by
 have hle:i<=l.length:=g▸List.findIdx_le_length;have n:∀y∈l.take i,(key y).toList<(key x).toList:=by
  intro y d;obtain⟨j,hj,rfl⟩:=List.getElem_of_mem d;rw[List.length_take] at hj;rw[List.getElem_take];have:=List.not_of_lt_findIdx (p:=fun c=>fK (key x) (key c)) (xs:=l) (i:=j) qo;exact Ks.1 (by simpa using this)
 have m:∀y∈l.drop i,(key x).toList<(key y).toList:=by
  rcases Nat.lt_or_ge i l.length with k|o
  .have h1:fK (key x) (key l[i])=true:=by
    have:=List.findIdx_getElem (p:=fun c=>fK (key x) (key c)) (xs:=l) (w:=by rw[g];exact k);simpa [g] using this
   have h2:(key x).toList<(key l[i]).toList:=Re h1 (fun e=>q l[i] (gE k) e.symm);intro y d;obtain⟨j,hj,rfl⟩:=List.getElem_of_mem d;rw[List.length_drop] at hj;rw[List.getElem_drop]
   rcases Nat.eq_zero_or_pos j with rfl|hp
   .exact h2
   .exact WA h2 (List.pairwise_iff_getElem.1 h i (i+j) k qo qo)
  .rw[List.drop_of_length_le o];intro y d;cases d
 unfold kT;rw[List.append_assoc,List.pairwise_append];refine⟨h.sublist (List.take_sublist _ _),?_,?_⟩
 .rw[List.singleton_append,List.pairwise_cons];exact⟨m,h.sublist (List.drop_sublist _ _)⟩
 .intro a ha b f;rw[List.singleton_append,List.mem_cons] at f
  rcases f with rfl|f
  .exact n a ha
  .exact WA (n a ha) (m b f)
theorem IE{α:Type}{key:α->ByteArray}{l m:List α}(h:kT key l)(he:m.map key=l.map key):kT key m:=by
 have h1:(l.map key).Pairwise (fun a b:ByteArray=>a.toList<b.toList):=List.pairwise_map.2 h;rw[<-he] at h1;exact(List.pairwise_map (f:=key) (R:=fun a b:ByteArray=>a.toList<b.toList)).1 h1
theorem LN{α:Type}{key:α->ByteArray}{l:List α}(h:kT key l){i:Nat}{x:α}(b:∀c,l[i]? =some c->key x=key c):kT key (l.set i x):=by
 refine IE h ?_;refine List.ext_getElem? fun j=> ?_
 rw[List.getElem?_map,List.getElem?_map,List.getElem?_set];by_cases e:i=j
 .subst e;rw[iP rfl];by_cases a:i<l.length
  .rw[iP a,gE a];exact congrArg some (b _ (gE a))
  .rw[iN a,List.getElem?_eq_none qo]
 .rw[iN e]
theorem Xd{s:Sto}{id:bY}(h:(aV s id).2=true):∃(k:Nat) (d:k<s.aDO.length),aV s id=(k,true)/\s.aDO[k].id=id/\dU s id=some s.aDO[k]/\s.aDO.findIdx (fun c=>fK id c.id)=k:=by
 unfold aV at h;dsimp only at h;by_cases a:s.aDO.findIdx (fun c=>fK id c.id)<s.aDO.length
 .rw[iP a,gE a] at h;have h2:s.aDO[s.aDO.findIdx (fun c=>fK id c.id)].id=id:=by simpa using h
  have b:aV s id=(s.aDO.findIdx (fun c=>fK id c.id),true):=by
   unfold aV;dsimp only;rw[iP a,gE a];simp[h2]
  refine⟨_,a,b,h2,?_,rfl⟩;unfold dU;rw[b];exact gE a
 .rw[iN a] at h;cases h
theorem Rf{s:Sto}{id:bY}(h:(aV s id).2=false):(aV s id).1=s.aDO.findIdx (fun c=>fK id c.id)/\∀c,s.aDO[(aV s id).1]? =some c->c.id≠id:=by
 unfold aV at h ⊢;dsimp only at h ⊢;by_cases b:s.aDO.findIdx (fun c=>fK id c.id)<s.aDO.length
 .rw[iP b] at h ⊢;refine⟨rfl,fun c a e=> ?_⟩;dsimp only at a;rw[a] at h;simp[e] at h
 .rw[iN b] at h ⊢;have hle:s.aDO.findIdx (fun c=>fK id c.id)<=s.aDO.length:=List.findIdx_le_length;refine⟨by dsimp only;omega,fun c a=> ?_⟩;dsimp only at a;rw[List.getElem?_eq_none (lR _)] at a
  cases a
theorem Bu{s:Sto}{id:bY}{c:cB}(h:dU s id=some c):∃(k:Nat) (b:k<s.aDO.length),aV s id=(k,true)/\s.aDO[k]=c/\c.id=id/\s.aDO.findIdx (fun c=>fK id c.id)=k:=by
 unfold dU at h;by_cases a:(aV s id).2=true
 .obtain⟨k,b,h1,h2,h3,h4⟩:=Xd a;rw[iP a,h1] at h;dsimp only at h;rw[gE b] at h;injection h with h;exact⟨k,b,h1,h,h▸h2,h4⟩
 .rw[iN a] at h;cases h
structure mF (tick:Int) (c:cB):Prop where
 aDT:c.aDT.length<=16
 aEs:kT Prod.fst c.aDT
 aEV:∀f∈c.aDT,f.2≠aY
 aEH:∀h∈c.log,0<=h.aDX/\h.aDX<=tick
 order:c.log.Pairwise (fun a b=>a.aDX<=b.aDX)
structure uO (s:Sto):Prop where
 aDX:0<=s.aDX/\s.aDX<=1099511627776
 aD0:0<=s.aD0
 few:s.aDO.length<=64
 aD1:s.aD1.length<=64
 aEs:kT cB.id s.aDO
 each:∀c∈s.aDO,mF s.aDX c
 aEt:∀r∈s.aDQ,0<=r.aDX/\r.aDX<=s.aDX
def AT(s:Sto):Prop:=uO s/\kF s=false
theorem mF.more{t b:Int}{c:cB}(h:mF t c)(d:t<=b):mF b c:=⟨h.aDT,h.aEs,h.aEV,fun x a=>⟨(h.aEH x a).1,qA ((h.aEH x a).2)⟩,h.order⟩
theorem AU{s:Sto}:kF s=false↔s.aDQ.length<=256/\s.aDV.length<=256/\∀c∈s.aDO,c.log.length<=256:=by
 unfold kF;rw[Bool.or_eq_false_iff,Bool.or_eq_false_iff,decide_eq_false_iff_not,decide_eq_false_iff_not,List.any_eq_false];constructor
 .exact QDg
 .exact QDg
structure iI (c d:cB):Prop where
 id:d.id=c.id
 aEg:d.aEg=c.aEg
 aD9:d.aD9=c.aD9\/iB c.aD9 d.aD9=true
 log:c.log <+:d.log
 shut:c.aD9=oL->d.aDT=c.aDT
theorem iI.refl(c:cB):iI c c:=⟨rfl,rfl,.inl rfl,List.prefix_refl _,fun _=>rfl⟩
def jY(t:Int)(a:bY)(l m:List cB):Prop:=m.length=l.length/\∀(i:Nat) (c:cB),l[i]? =some c->∃L:List uI,m[i]? =some {c with log:=c.log++L}/\∀h∈L,h.aDX=t/\h.aEn=a
theorem jY.refl(t:Int)(a:bY)(l:List cB):jY t a l l:=⟨rfl,fun i c h=>⟨[],by rw[h,List.append_nil],fun _ h=>by cases h⟩⟩
theorem jY.trans{t:Int}{a:bY}{l m n:List cB}(h:jY t a l m)(k:jY t a m n):jY t a l n:=by
 refine⟨k.1.trans h.1,fun i c j=> ?_⟩;obtain⟨L,e,f⟩:=h.2 i c j;obtain⟨M,d,g⟩:=k.2 i _ e;refine⟨L++M,by rw[d,List.append_assoc],fun x b=> ?_⟩
 rcases List.mem_append.1 b with b|b
 .exact f x b
 .exact g x b
theorem ZP(s:Sto)(o:Op)(what:bY):jY s.aDX o.aD3 s.aDO (mE s o what).aDO:=by
 unfold mE;dsimp only;split
 .unfold eQ;dsimp only;split
  .rename_i c f;refine⟨List.length_set,fun i d a=> ?_⟩;rw[List.getElem?_set];by_cases e:s.aDO.findIdx (fun c=>decide (c.id=o.aDU))=i
   .subst e;rw[iP rfl,iP qo];rw[f] at a;injection a with a;subst a;exact⟨[⟨s.aDX,o.aD3,what⟩],rfl,fun h b=>by rw[List.mem_singleton] at b;rw[b];exact⟨rfl,rfl⟩⟩
   .rw[iN e];exact⟨[],by rw[a,List.append_nil],fun _ h=>by cases h⟩
  .exact jY.refl _ _ _
 .exact jY.refl _ _ _
theorem ZQ(o:Op)(d:Bool)(s:Sto)(x:Ob):jY s.aDX o.aD3 s.aDO (cU o d s x).aDO:=by
 unfold cU;split
 .exact ZP s o x.arg
 .split
  .exact jY.refl _ _ _
  .split<;>exact jY.refl _ _ _
theorem vA(o:Op)(d:Bool):∀(l:List Ob) (s:Sto),jY s.aDX o.aD3 s.aDO (l.foldl (cU o d) s).aDO
 | [],_=>jY.refl _ _ _
 |x::l,s=>(ZQ o d s x).trans (by have:=vA o d l (cU o d s x);rwa [DC] at this)
theorem Fa{t:Int}{a:bY}{l m:List cB}(h:jY t a l m):m.map cB.id=l.map cB.id:=by
 refine List.ext_getElem? fun j=> ?_
 rw[List.getElem?_map,List.getElem?_map]
 rcases Nat.lt_or_ge j l.length with hj|hj
 .obtain⟨L,e,_⟩:=h.2 j l[j] (gE hj);rw[e,gE hj];rfl
 .rw[List.getElem?_eq_none hj,List.getElem?_eq_none (by rw[h.1];exact hj)]
theorem Fb{t:Int}{a:bY}{l m:List cB}(h:jY t a l m){d:cB}(g:d∈m):∃c∈l,∃L:List uI,d={c with log:=c.log++L}/\∀h∈L,h.aDX=t/\h.aEn=a:=by
 obtain⟨i,b,rfl⟩:=List.getElem_of_mem g;have j:i<l.length:=by rw[<-h.1];exact b
 obtain⟨L,e,f⟩:=h.2 i l[i] (gE j);rw[gE b] at e;injection e with e;exact⟨l[i],List.getElem_mem _,L,e,f⟩
theorem QJ{t:Int}{a:bY}{c:cB}{L:List uI}(h:mF t c)(f:0<=t)(d:∀h∈L,h.aDX=t/\h.aEn=a):mF t {c with log:=c.log++L}:=by
 refine⟨h.aDT,h.aEs,h.aEV,fun x b=> ?_,?_⟩
 .rcases List.mem_append.1 b with b|b
  .exact h.aEH x b
  .rw[(d x b).1];exact⟨f,Int.le_refl _⟩
 .rw[List.pairwise_append];refine⟨h.order,?_,fun x b y g=> ?_⟩
  .refine List.pairwise_iff_getElem.2 fun i j e hj _=> ?_
   rw[(d _ (List.getElem_mem e)).1,(d _ (List.getElem_mem hj)).1];exact Int.le_refl _
  .rw[(d y g).1];exact(h.aEH x b).2
def jO(a b:List wJ)(tick:Int):Prop:=∃l,b=a++l/\∀r∈l,r.aDX=tick/\r.open_=true
theorem jO.refl(a:List wJ)(t:Int):jO a a t:=⟨[],qs,fun n h=>absurd h qs⟩
theorem jO.trans{a b c:List wJ}{t:Int}(h:jO a b t)(k:jO b c t):jO a c t:=by
 exact QBZ
theorem QK(s:Sto)(o:Op)(r:bY):jO s.aDQ (gG s o r).aDQ s.aDX:=⟨_,rfl,fun n a=>by rw[List.mem_singleton] at a;rw[a];exact⟨rfl,rfl⟩⟩
theorem Kt(o:Op)(d:Bool)(s:Sto)(x:Ob):jO s.aDQ (cU o d s x).aDQ s.aDX:=by
 unfold cU;split
 .rw[(VZ _ _ _).2];exact jO.refl _ _
 .split
  .exact QK _ _ _
  .split<;>exact jO.refl _ _
theorem IF(o:Op)(d:Bool):∀(l:List Ob) (s:Sto),jO s.aDQ (l.foldl (cU o d) s).aDQ s.aDX
 | [],_=>jO.refl _ _
 |x::l,s=>(Kt o d s x).trans (by have:=IF o d l (cU o d s x);rwa [DC] at this)
theorem tN(g:Bool)(s:Sto)(o:Op)(r:bY):(if g=true then gG s o r else s).aDO=s.aDO:=by split<;>rfl
theorem SM(g:Bool)(s:Sto)(o:Op)(r:bY):jO s.aDQ (if g=true then gG s o r else s).aDQ s.aDX:=by
 split
 .exact QK _ _ _
 .exact jO.refl _ _
theorem WB{a b:List wJ}{t:Int}(h:jO a b t)(e:0<=t)(ha:∀r∈a,0<=r.aDX/\r.aDX<=t):∀r∈b,0<=r.aDX/\r.aDX<=t:=by
 obtain⟨l,rfl,d⟩:=h;intro r c
 rcases List.mem_append.1 c with c|c
 .exact ha r c
 .rw[(d r c).1];exact⟨e,Int.le_refl _⟩
theorem Ku{s:Sto}(h:uO s)(g:Bool)(o:Op)(r:bY):uO (if g=true then gG s o r else s):=by
 have h1:=WB (SM g s o r) h.aDX.1 h.aEt;have a:=SF g s o r;have c:=gY g s o r;have b:=tN g s o r;exact⟨by rw[a];exact h.aDX,by rw[c.2];exact h.aD0,by rw[b];exact h.few,by rw[c.1];exact h.aD1,by rw[b];exact h.aEs,by rw[b,a];exact h.each,by rw[a];exact h1⟩
theorem Fc{s:Sto}(h:uO s)(o:Op)(d:Bool)(l:List Ob):uO (l.foldl (cU o d) s):=by
 have a:=GS o d l s;have f:=nF o d l s;have e:=vA o d l s;refine⟨by rw[a];exact h.aDX,by rw[f.2];exact h.aD0,by rw[e.1];exact h.few,by rw[f.1];exact h.aD1,IE h.aEs (Fa e),?_,?_⟩
 .intro c j;obtain⟨b,i,L,rfl,g⟩:=Fb e j;rw[a];exact QJ (h.each b i) h.aDX.1 g
 .rw[a];exact WB (IF o d l s) h.aDX.1 h.aEt
end Go.Proofs.YthcgdgkpgdjahaaGreatDoor
