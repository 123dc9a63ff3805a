/- Lemmas. -/
import Derived.Test.YtbinmcabjnoliaaGreatDoorMak
import Derived.Lib.Overlaps
import Derived.Shelf.Spec.SlicesInsert
namespace Go.Proofs.YtbinmcabjnoliaaGreatDoor
open Go.RowKit
set_option linter.unusedVariables false
set_option linter.unusedSimpArgs false
set_option maxHeartbeats 16000000
open _root_.Go.Proofs.Tryz
set_option maxRecDepth 20000
theorem QCC{p:Prop}(h:p:=by
 rw[hR];simp only[aL,List.length_take,Array.length_toList,Builtin.zeroCells,Array.size_map,Array.size_range,h6];omega):p:=h
theorem QCt{p:Prop}(h:p:=by
 rw[hR,List.append_assoc,List.take_append_of_le_length (by rw[List.length_take];omega)];exact List.take_of_length_le (by rw[List.length_take];omega)):p:=h
theorem QBF{p:Prop}(h:p:=by
 have ha:(⟨g,0,none⟩:Addr).add j=⟨g,0+j,none⟩:=by unfold Addr.add;split<;>simp_all
 rw[ha,Nat.zero_add];rw[List.getElem?_take] at hj;split at hj
 .show w.cell? ⟨g,j,none⟩=some v;simp only[World.cell?,hg'];simpa using hxc j v hj
 .cases hj):p:=h
theorem QBn{p:Prop}(h:p:=by
 subst h1 h2
 apply List.ext_getElem?
 intro j;simp only[List.getElem?_append,List.getElem?_take,List.getElem?_drop,aL,List.length_take,List.length_drop,aL]
 repeat' split
 all_goals (first|rfl|omega|(congr 1;omega)|skip)
 all_goals (first|(rw[List.getElem?_eq_none qo])|(rw[List.getElem?_eq_none qo,List.getElem?_eq_none qo])|skip)):p:=h
theorem QBj{p:Prop}(h:p:=by
 rw[h8] at h9;refine⟨some ⟨g,0,none⟩,c,rfl,⟨?_,.inr ⟨g,c,_,rfl,hbg,HW5.o,hroom,hcm,?_,?_⟩⟩,hgr,.inl rfl⟩
 .rw[<-h9,List.length_take];simp only[aL,List.length_take,List.length_drop];have:=HL1.o;have:=HCS.o;omega
 .simp only[List.size_toArray,aL,List.length_take,List.length_drop];have:=HL1.o;have:=HCS.o;omega
 .rw[List.toList_toArray,e1];exact h9):p:=h
theorem QAW{p:Prop}(h:p:=by
 have hi1:i<9223372036854775807:=qo;go_enter func107,ntmps107;go_wp2_with (at_builtin;refine fR zS rfl (.tmp 23) (.tmp 24) rfl base _ i xs rfl HO.o (some ⟨vb,0,none⟩) 1 vc CS rfl (qA HC.o) HSL.o H1.o (by unfold maxLen;omega) qo hbase ?_;intro A' c' w4 hw4 hg4 hat4;have H4:=aA hw4;have H5:=aA hg4;have H6:=aA hat4;clear hw4 hg4 hat4)
 go_ret;unfold pL;refine⟨A',c',rfl,?_,H5.o,H6.o⟩;have hl:xs.length=i * 5:=HO.o.1;rw[List.take_of_length_le qo,List.drop_of_length_le qo,List.append_nil];exact H4.o):p:=h
theorem QAV{p:Prop}(h:p:=by
 have hi1:i<9223372036854775807:=qo;go_enter func159,ntmps159;go_wp2_with (at_builtin;refine fR wX rfl (.tmp 23) (.tmp 24) rfl base _ i xs rfl HO.o (some ⟨vb,0,none⟩) 1 vc CS rfl (qA HC.o) HSL.o H1.o (by unfold maxLen;omega) qo hbase ?_;intro A' c' w4 hw4 hg4 hat4;have H4:=aA hw4;have H5:=aA hg4;have H6:=aA hat4;clear hw4 hg4 hat4)
 go_ret;unfold pL;refine⟨A',c',rfl,?_,H5.o,H6.o⟩;have hl:xs.length=i * 4:=HO.o.1;rw[List.take_of_length_le qo,List.drop_of_length_le qo,List.append_nil];exact H4.o):p:=h
theorem QAC{p:Prop}(h:p:=by
 rw[HRT.o] at h9;refine⟨some ⟨w.heap.size,0,none⟩,G,rfl,⟨?_,.inr ⟨w.heap.size,G,_,rfl,hbase,HW6.o,HGn.o,HGm.o,?_,?_⟩⟩,?_,.inr rfl⟩
 .rw[<-h9,List.length_take];simp only[aL,List.length_take,List.length_drop];have:=HL1.o;have:=HDL.o;have:=HXL.o;have:=HGn.o;omega
 .simp only[List.size_toArray,aL,List.length_take,List.length_drop];have:=HL1.o;have:=HDL.o;have:=HXL.o;have:=HGn.o;omega
 .rw[List.toList_toArray,e1,e2];exact h9
 .have hB:=HW1B.o;have h5:=HG5.o;have h6:=HG6.o;refine⟨h6.os.trans (h5.os.trans hB.os),h6.tape.trans (h5.tape.trans hB.tape),h6.output.trans (h5.output.trans hB.output),lT hB.size (lT h5.size h6.size),fun k hk _=> ?_⟩;have h51:=h5.block k (lL hk hB.size) (fun e=>by injection e;omega);exact(h6.block k (lL hk (lT hB.size h5.size)) (fun e=>by injection e;omega)).trans (h51.trans (hB.block k hk))):p:=h
section
variable {P:Program}
theorem Im(w:World)(d B ty elem:TypeId)(s g o c m:Nat)(a:Addr)(l A:Nat)(cur:Array Value)(t:TypeId)(k:Nat)(cs:List Value)
 (hu:P.underlying d=some (.slice elem))(f:(P.info? elem).map (·.size)=some s)
 (p:w.heap[g]? =some (.cells cur t (0,0)))(r:Nat.min l c=k)(x:cs.length=k * s)
 (y:∀j v,cs[j]? =some v->w.cell? (a.add j)=some v)(n:o+cs.length<=cur.size)(h1:∀v∈cs,v.oneCell'=true):
 (Builtin.copy_ #[d,B] ty #[.slice (some ⟨g,o,none⟩) c m,.slice (some a) l A]).run P w=
   .ok (goInt k) (w.setRow g (cur.toList.take o++cs++cur.toList.drop (o+cs.length)).toArray):=by
 have e:=run_loadCells_list (P:=P) w a cs y;have z:=run_storeCells_at P g o t cs 0 cur w p (by simpa using n) h1
 cases b:P.info? elem with
 |none=>simp[b] at f
 |some i=>
  have q:i.size=s:=by simpa [b] using f
  rw[x] at e;simp[Builtin.copy_,run_underlying hu,Builtin.lenOf,Builtin.firstCells,sizeOf,typeInfo,b,q,r,e,z]
theorem UM{w:World}(g:Nat)(cs:Array Value):w.grownBy (w.setRow g cs) (some g):=⟨rfl,rfl,rfl,by simp[World.setRow],fun k _ a=>setRow_other w g k cs (fun e=>a (by rw[e]))⟩
theorem UN{w:World}{o:Oper}{a:Act}{K:Act->World->Prop}{Q:Exit->Act->World->Prop}(d x:Operand)(f q:TypeId)
 (D:o.op=.call {callee:= .builtin .copy,args:=#[d,x],argTypes:=#[f,q]})(elem:TypeId)(s:Nat)(hu:P.underlying f=some (.slice elem))(G:(P.info? elem).map (·.size)=some s)
 (g b off i e m b' r c l p:Nat)(y:a.eval d=.slice (some ⟨b,i,none⟩) e m)(J:a.eval x=.slice (some ⟨b',c,none⟩) l p)(E:i=off)(H:c=r)(A:b=g)
 (cur:List Value)(t:TypeId)(n:w.heap[g]? =some (.cells cur.toArray t (0,0)))(k:Nat)(cs:List Value)(B:Nat.min l e=k)(C:cs.length=k * s)
 (I:∀j v,cs[j]? =some v->w.cell? ⟨b',r+j,none⟩=some v)(z:off+cs.length<=cur.length)(h1:∀v∈cs,v.oneCell'=true)
 (h:∀w',Hid (w'.heap[g]? =some (.cells (cur.take off++cs++cur.drop (off+cs.length)).toArray t (0,0)))->w.grownBy w' (some g)->K (a.put o.dst (goInt k)) w'):o.wp P a w K Q:=by
 subst E H A;have F:=Im (P:=P) w f q o.type elem s b i e m ⟨b',c,none⟩ l p cur.toArray t k cs hu G n B C
  (fun j v hj=>by
    have ha:(⟨b',c,none⟩:Addr).add j=⟨b',c+j,none⟩:=by unfold Addr.add;split<;>simp_all
    rw[ha];exact I j v hj) (by simpa using z) h1
 unfold Oper.wp execOp;simp only[D,resolve,invoke,builtin,Sem.run_bind,Sem.run_pure,Result.andThen_ok,List.map_toArray,List.map_cons,List.map_nil,y,J,F];exact h _ (setRow_heap w b _ _ t _ n) (UM b _)
theorem rY{w:World}{ops:Array Oper}{rest:List Oper}{o:Oper}{a:Act}{Q:Exit->Act->World->Prop}(B:o.guard=none)(d x:Operand)(c q:TypeId)
 (F:o.op=.call {callee:= .builtin .copy,args:=#[d,x],argTypes:=#[c,q]})(elem:TypeId)(s:Nat)(hu:P.underlying c=some (.slice elem))(H:(P.info? elem).map (·.size)=some s)
 (g e off f b n b' l m i p:Nat)(y:a.eval d=.slice (some ⟨e,f,none⟩) b n)(K:a.eval x=.slice (some ⟨b',m,none⟩) i p)(G:f=off)(I:m=l)(C:e=g)
 (cur:List Value)(t:TypeId)(A:w.heap[g]? =some (.cells cur.toArray t (0,0)))(k:Nat)(cs:List Value)(D:Nat.min i b=k)(E:cs.length=k * s)
 (J:∀j v,cs[j]? =some v->w.cell? ⟨b',l+j,none⟩=some v)(z:off+cs.length<=cur.length)(h1:∀v∈cs,v.oneCell'=true)
 (h:∀w',Hid (w'.heap[g]? =some (.cells (cur.take off++cs++cur.drop (off+cs.length)).toArray t (0,0)))->w.grownBy w' (some g)->wpList P ops Q rest (a.put o.dst (goInt k)) w'):wpList P ops Q (o::rest) a w:=
 wpList_plain B fun _ r=>UN d x c q F elem s hu H g e off f b n b' l m i p y K G I C cur t A k cs D E J z h1 fun w' h2 h3=>r _ _ (h w' h2 h3)
theorem vA{w:World}{ops:Array Oper}{o:Oper}{a:Act}{K:Act->World->Prop}{Q:Exit->Act->World->Prop}{E:Prop}(A:o.guard=none)(d x:Operand)(c q:TypeId)
 (F:o.op=.call {callee:= .builtin .copy,args:=#[d,x],argTypes:=#[c,q]})(elem:TypeId)(s:Nat)(hu:P.underlying c=some (.slice elem))(H:(P.info? elem).map (·.size)=some s)
 (g e off f b n b' l m i p:Nat)(r:a.eval d=.slice (some ⟨e,f,none⟩) b n)(L:a.eval x=.slice (some ⟨b',m,none⟩) i p)(G:f=off)(I:m=l)(B:e=g)
 (cur:List Value)(t:TypeId)(z:w.heap[g]? =some (.cells cur.toArray t (0,0)))(k:Nat)(cs:List Value)(C:Nat.min i b=k)(D:cs.length=k * s)
 (J:∀j v,cs[j]? =some v->w.cell? ⟨b',l+j,none⟩=some v)(y:off+cs.length<=cur.length)(h1:∀v∈cs,v.oneCell'=true)
 (h:∀w',Hid (w'.heap[g]? =some (.cells (cur.take off++cs++cur.drop (off+cs.length)).toArray t (0,0)))->w.grownBy w' (some g)->K (a.put o.dst (goInt k)) w'):if Region.wanted o (yielded ops a.tmps)=true then Oper.wp P o a w K Q else E:=by
 rw[iP (by simp[Region.wanted,A])];exact UN d x c q F elem s hu H g e off f b n b' l m i p r L G I B cur t z k cs C D J y h1 h
end
theorem OX{C D cs:List Value}{a s L:Nat}(hC:L+s<=C.length)(c:D.length=L - a)(ha:a<=L)(d:cs.length=s){C1 b:List Value}(h1:C1=C.take (a+s)++D++C.drop (a+s+D.length))(h2:b=C1.take a++cs++C1.drop (a+cs.length)):b.take (L+s)=C.take a++cs++D:=by
 exact QBn
theorem UO{C D cs:List Value}{a s L:Nat}(hC:L+s<=C.length)(c:D.length=L - a)(ha:a<=L)(d:cs.length=s){C1 b:List Value}(h1:C1=C.take a++cs++C.drop (a+cs.length))(h2:b=C1.take (a+s)++D++C1.drop (a+s+D.length)):b.take (L+s)=C.take a++cs++D:=by
 exact QBn
def pL(base:Nat)(e:TypeId)(s n i:Nat)(v:Value)(xs cs:List Value)(w:World)(o:Ending)(w':World):Prop:=∃A a,o=.returned (.slice A (n+1) a)/\w'.ownsRow base e s (.slice A (n+1) a) (n+1) (xs.take (i * s)++cs++xs.drop (i * s))/\w.grownBy w' v.ownBlock/\((Value.slice A (n+1) a).ownBlock=v.ownBlock\/(Value.slice A (n+1) a).ownBlock=some w.heap.size)
theorem QV(w:World)(base:Nat)(a:oD)(n c i:Nat)(xs CS:List Value)(vb vc:Nat)(ty:TypeId)
 (f:w.ownsRow base 57 4 (.slice a n c) n xs)(hi:i<=n)(hn:n<=1000000)(hbase:base<=w.heap.size)(b:w.heap[vb]? =some (.cells CS.toArray ty (0,0)))(d:CS.length=4)
 (h1:∀u∈CS,u.oneCell'=true)(x:∀u∈xs,u.oneCell'=true)(an:(Value.slice a n c).ownBlock≠some vb):
 Calls prog 159 #[.slice a n c,.int .i64 i,.slice (some ⟨vb,0,none⟩) 1 vc] w (pL base 57 4 n i (.slice a n c) xs CS w):=by
 have Y:=aD b;have H:Sl w w.heap.size (some ⟨vb,0,none⟩) CS:=fun _=>⟨vb,0,rfl,Y,fun j u hu=>by simp only[World.cell?,b,Nat.zero_add];simpa using hu⟩
 by_cases bc:i=n
 .subst bc;obtain⟨HO,HSL,HV,H1,HC⟩:=gC f H b h1 d;clear f H b h1 x an d;by_cases W:c=i
  .have bb:=W.symm;clear W;subst bb;exact QAV
  .skip
   exact QAV
 .have bo:i<n:=qo
  rcases f.2 with ⟨e1,e2⟩|⟨g,cap,cur,e1,hbg,hg,bp,hcm,ag,al⟩
  .omega
  injection e1 with e1 e2 e3;subst e1 e3;have aq:¬vb=g:=fun e=>an (by rw[e];rfl)
  have q:=f.1;obtain⟨C,hC⟩:=xE cur.toList;have hg':w.heap[g]? =some (.cells C.toArray 57 (0,0)):=by rw[hC,Array.toArray_toList];exact hg
  have y:C.length=c * 4:=by rw[hC,Array.length_toList];exact ag
  have J:C.take (n * 4)=xs:=by rw[hC];exact al
  have hxc:∀j u,xs[j]? =some u->C[j]? =some u:=fun j u hu=>by
   rw[<-J,List.getElem?_take] at hu;split at hu
   .exact hu
   .cases hu
  clear hC hg al ag;have bm:c<=9223372036854775807:=by unfold maxLen at hcm;omega
  have ai:=aD hg';have F:(xs.drop (i * 4)).length=(n - i) * 4:=by rw[List.length_drop,q,Nat.sub_mul]
  have E:∀u∈xs.drop (i * 4),u.oneCell'=true:=fun u hu=>x u (List.mem_of_mem_drop hu)
  have I:(prog.info? 57).map (·.size)=some 4:=by obtain⟨i0,z0,h2,_,h4,_⟩:=wX.info;rw[h2];simp[h4]
  have m:=wX.under;have K:∀j u,CS[j]? =some u->w.cell? ⟨vb,0+j,none⟩=some u:=fun j u hu=>by simp only[World.cell?,b,Nat.zero_add];simpa using hu
  have bs:IntKind.i64.wrap ((i:Int)+1)=(i:Int)+1:=by rw[IntKind.wrap_i64];omega
  have bh:(0:Int)<=(i:Int)+1:=qo;have bn:i<=n:=qo;have br:((i:Int)+1).toNat=i+1:=qo;have bq:¬((i:Int)=(n:Int)):=qo;have bk:(i:Int)<=(n:Int)+1:=qo;by_cases hroom:n+1<=c
  .have bj:¬(c=i+1):=qo;have bl:¬(c=i):=qo;have bd:∀Z S,(callFunc 203 #[.slice (some ⟨vb,0,none⟩) 1 vc,.slice (some ⟨g,(i+1) * 4,none⟩) Z S]).run prog w=.ok (.value (.bool false)) w:=fun Z S=>by
    rw[run_callFunc_extern func203 (by kernel_rfl) (by kernel_rfl) (by kernel_rfl) (e:=Extern.SlicesOverlaps.overlaps #[43,43] #[4]) (by kernel_rfl),
     Lib.run_overlaps_apart w 43 4 57 m 4 (by obtain⟨i0,z0,h2,_,h4,_⟩:=wX.info;intro w9;simp[sizeOf,typeInfo,h2,h4]) ⟨vb,0,none⟩ ⟨g,(i+1) * 4,none⟩ 1 vc Z S aq ty 57 CS.length (c * 4)
      (by simp[World.shape?,b]) (by simp[World.shape?,hg',y]) qo (aR b 0) (aR b _)]
    rfl
   have r:Hid (∀j u,(xs.drop (i * 4))[j]? =some u->w.cell? ⟨g,i * 4+j,none⟩=some u):=aA (fun j u hu=>by rw[List.getElem?_drop] at hu;simp only[World.cell?,hg'];simpa using hxc _ u hu);obtain⟨N,HV,HG,HX,O,H1,ay,ax⟩:=RX y b hg' hxc E h1 K J;obtain⟨HCS,HDL,HXL⟩:=aY d F q;clear f b hg' y hxc E h1 K J d F q H x;go_enter func159,ntmps159;go_wp2_with (simp only[bd])
   go_region_law (refine vA rfl _ _ _ _ rfl 57 4 m I g g ((i+1) * 4) ((i+1) * 4) (n - i) (c - (i+1)) g (i * 4) (i * 4) (n+1 - i) (c - i) (by simp[Act.eval,Act.put]) (by simp[Act.eval,Act.put]) rfl rfl rfl C 57 HG.o (n - i) (xs.drop (i * 4)) (by simp only[Nat.min_def];split<;>omega) HDL.o r.o (qD HDL.o N.o) O.o ?_;intro w4 hw4 hg4)
   obtain⟨C1,T⟩:=xE (C.take ((i+1) * 4)++xs.drop (i * 4)++C.drop ((i+1) * 4+(xs.drop (i * 4)).length));have a7:Hid (w4.heap[g]? =some (.cells C1.toArray 57 (0,0))):=aA (by rw[T];exact hw4.o);have aa:=aA T;have l:=aA hg4;have a1:Hid (∀j u,CS[j]? =some u->w4.cell? ⟨vb,0+j,none⟩=some u):=aA (fun j u hu=>(World.cell?_of_block (a:=⟨vb,0+j,none⟩) (hg4.block vb Y (fun e=>aq (by injection e)))).trans (ay.o j u hu));clear hw4 hg4 T;have HL1:Hid (C1.length=c * 4):=aA (by rw[aa.o];simp only[aL,List.length_take,List.length_drop];have:=N.o;have:=HXL.o;omega);go_wp2_with (refine rY rfl (.tmp 80) (.tmp 81) _ _ rfl 57 4 m I g _ (i * 4) _ _ _ _ 0 _ _ _ rfl rfl rfl rfl rfl C1 57 a7.o 1 CS (by simp only[Nat.min_def];split<;>omega) (qA HCS.o) a1.o (qD HL1.o HCS.o) H1.o ?_;intro M p o;have HW5:=aA p.o;have HG5:=aA o;clear p o)
   go_ret;unfold pL;have hgr:=(⟨l.o.os,l.o.tape,l.o.output,l.o.size,l.o.block⟩:w.grownBy w4 (some g)).trans HG5.o;have e1:(n+1) * 4=n * 4+4:=qo;have e2:(i+1) * 4=i * 4+4:=qo;have h9:=OX (C:=C) (D:=xs.drop (i * 4)) (cs:=CS) (a:=i * 4) (s:=4) (L:=n * 4) (qA N.o) (qA HDL.o) qo HCS.o (C1:=C1) (by rw[aa.o,e2]) rfl;have h8:C.take (i * 4)=xs.take (i * 4):=by rw[<-ax.o,List.take_take,Nat.min_eq_left qo]
   exact QBj
  .have W:¬(c=i):=qo;obtain⟨i0,z0,h2,h3,h4,h5,h6⟩:=wX.info;have hold:(Builtin.firstCells i0.size i (.slice (some ⟨g,0,none⟩) i c)).run prog w.drew=.ok (xs.take (i * 4)).toArray w.drew:=by
    rw[h4];refine run_firstCells_some w.drew 4 i ⟨g,0,none⟩ i c (xs.take (i * 4)) (by rw[List.length_take];omega) (fun j v hj=> ?_);exact QBF
   have X:i+(n+1 - i)=n+1:=qo;have aj:(n:Int)+1 - (i:Int)=((n+1 - i:Nat):Int):=qo;obtain⟨G,z⟩:=xE (grownCap w (n+1) c 57);obtain⟨R,hR⟩:∃R:List Value,R=xs.take (i * 4)++(Builtin.zeroCells z0.cells (n+1 - i)).toList++(Builtin.zeroCells z0.cells (G - (n+1))).toList:=⟨_,rfl⟩;obtain⟨t,B⟩:=xE (w.drew.alloc (.cells R.toArray 57));have ak:∀ty,(Builtin.append_ #[43,3] ty #[.slice (some ⟨g,0,none⟩) i c,.int .i64 ((n:Int)+1 - (i:Int))]).run prog w=.ok (.slice (some ⟨w.heap.size,0,none⟩) (n+1) G) t:=fun ty=>by
    have h:=Lib.run_append_grow_zeros w 43 3 ty 57 i0 z0 .i64 .i64 wX.under (by kernel_rfl) h2 h3 (some ⟨g,0,none⟩) i c (xs.take (i * 4)) hold (n+1 - i) qo qo qo qo (by rw[h5];omega) (by rw[h5,X];exact growslice_fits qo qo);rw[X,<-z] at h;rw[aj,h,B,hR]
    congr 3
    simp
   have ba:n+1<=G:=by rw[z];exact grownCap_ge w _ _ _
   have U:G<=maxLen:=by rw[z];exact grownCap_le_maxLen w (n+1) c _ (by unfold maxLen;omega)
   have ab:R.length=G * 4:=by
    exact QCC
   have ae:t.heap[w.heap.size]? =some (.cells R.toArray 57 (0,0)):=by rw[B];exact heap_alloc_new w.drew _
   have V:Below w.heap.size w t:=by
    have h:=aB w.drew (.cells R.toArray 57);rw[B];exact⟨h.os,h.tape,h.output,h.size,h.block⟩
   have ad:R.take (i * 4)=xs.take (i * 4):=by
    exact QCt
   have ao:∀j u,CS[j]? =some u->t.cell? ⟨vb,0+j,none⟩=some u:=fun j u hu=>(World.cell?_of_block (a:=⟨vb,0+j,none⟩) (V.block vb Y)).trans (K j u hu)
   have bf:¬(G=i):=qo;have bg:¬(G=i+1):=qo;have be:G<=9223372036854775807:=by unfold maxLen at U;omega
   have r:Hid (∀j u,(xs.drop (i * 4))[j]? =some u->w.cell? ⟨g,i * 4+j,none⟩=some u):=aA (fun j u hu=>by rw[List.getElem?_drop] at hu;simp only[World.cell?,hg'];simpa using hxc _ u hu);obtain⟨av,HGn,HGm,P,a6,HW1B,HRT,az⟩:=RX ak ba U ab ae V ad ao;obtain⟨O,H1,HCS,HDL,HXL⟩:=gC E h1 d F q;clear f b hg' y hxc E h1 K J d F q H x hold X aj z hR B ak U ab ae V ad ao h2 h3 h4 h5 h6;go_enter func159,ntmps159;go_wp2_with (first
    |(at_builtin;refine Lib.wpList_append_run _ rfl _ _ _ _ rfl _ _ rfl rfl _ _ (av.o _) ?_)
    |(refine rY rfl (.tmp 43) (.tmp 44) _ _ rfl 57 4 m I w.heap.size _ (i * 4) _ _ _ _ 0 _ _ _ rfl rfl rfl rfl rfl R 57 a6.o 1 CS (by simp only[Nat.min_def];split<;>omega) (qA HCS.o) az.o (qF P.o HCS.o HGn.o) H1.o ?_;intro M p o;have HW5:=aA p.o;have HG5:=aA o;clear p o))
   obtain⟨Q,A⟩:=xE (R.take (i * 4)++CS++R.drop (i * 4+CS.length));have au:=aA A;have a8:Hid (M.heap[w.heap.size]? =some (.cells Q.toArray 57 (0,0))):=aA (by rw[A];exact HW5.o);have af:M.heap[g]? =w.heap[g]? :=(HG5.o.block g (lL ai HW1B.o.size) (fun e=>by injection e;omega)).trans (HW1B.o.block g ai);have aw:Hid (∀j u,(xs.drop (i * 4))[j]? =some u->M.cell? ⟨g,i * 4+j,none⟩=some u):=aA (fun j u hu=>(World.cell?_of_block (a:=⟨g,i * 4+j,none⟩) af).trans (r.o j u hu));have HL1:Hid (Q.length=G * 4):=aA (by rw[A];simp only[aL,List.length_take,List.length_drop];have:=P.o;have:=HCS.o;have:=HGn.o;omega);clear r af A HW5;go_region_law (refine vA rfl _ _ _ _ rfl 57 4 m I w.heap.size w.heap.size ((i+1) * 4) ((i+1) * 4) (n - i) (G - (i+1)) g (i * 4) (i * 4) (n - i) (c - i) (by simp[Act.eval,Act.put]) (by simp[Act.eval,Act.put]) rfl rfl rfl Q 57 a8.o (n - i) (xs.drop (i * 4)) (by simp only[Nat.min_def];split<;>omega) HDL.o aw.o (qF HDL.o HL1.o HGn.o) O.o ?_;intro w6 ar ah;have HW6:=aA ar.o;have HG6:=aA ah;clear ar ah)
   go_wp2;go_ret;unfold pL;have e1:(n+1) * 4=n * 4+4:=qo;have e2:(i+1) * 4=i * 4+4:=qo;have h9:=UO (C:=R) (D:=xs.drop (i * 4)) (cs:=CS) (a:=i * 4) (s:=4) (L:=n * 4) (qD P.o HGn.o) (qA HDL.o) qo HCS.o au.o rfl;exact QAC
theorem QW(w:World)(base:Nat)(a:oD)(n c i:Nat)(xs CS:List Value)(vb vc:Nat)(ty:TypeId)
 (f:w.ownsRow base 46 5 (.slice a n c) n xs)(hi:i<=n)(hn:n<=1000000)(hbase:base<=w.heap.size)(b:w.heap[vb]? =some (.cells CS.toArray ty (0,0)))(d:CS.length=5)
 (h1:∀u∈CS,u.oneCell'=true)(x:∀u∈xs,u.oneCell'=true)(an:(Value.slice a n c).ownBlock≠some vb):
 Calls prog 107 #[.slice a n c,.int .i64 i,.slice (some ⟨vb,0,none⟩) 1 vc] w (pL base 46 5 n i (.slice a n c) xs CS w):=by
 have Y:=aD b;have H:Sl w w.heap.size (some ⟨vb,0,none⟩) CS:=fun _=>⟨vb,0,rfl,Y,fun j u hu=>by simp only[World.cell?,b,Nat.zero_add];simpa using hu⟩
 by_cases bc:i=n
 .subst bc;obtain⟨HO,HSL,HV,H1,HC⟩:=gC f H b h1 d;clear f H b h1 x an d;by_cases W:c=i
  .have bb:=W.symm;clear W;subst bb;exact QAW
  .skip
   exact QAW
 .have bo:i<n:=qo
  rcases f.2 with ⟨e1,e2⟩|⟨g,cap,cur,e1,hbg,hg,bp,hcm,ag,al⟩
  .omega
  injection e1 with e1 e2 e3;subst e1 e3;have aq:¬vb=g:=fun e=>an (by rw[e];rfl)
  have q:=f.1;obtain⟨C,hC⟩:=xE cur.toList;have hg':w.heap[g]? =some (.cells C.toArray 46 (0,0)):=by rw[hC,Array.toArray_toList];exact hg
  have y:C.length=c * 5:=by rw[hC,Array.length_toList];exact ag
  have J:C.take (n * 5)=xs:=by rw[hC];exact al
  have hxc:∀j u,xs[j]? =some u->C[j]? =some u:=fun j u hu=>by
   rw[<-J,List.getElem?_take] at hu;split at hu
   .exact hu
   .cases hu
  clear hC hg al ag;have bm:c<=9223372036854775807:=by unfold maxLen at hcm;omega
  have ai:=aD hg';have F:(xs.drop (i * 5)).length=(n - i) * 5:=by rw[List.length_drop,q,Nat.sub_mul]
  have E:∀u∈xs.drop (i * 5),u.oneCell'=true:=fun u hu=>x u (List.mem_of_mem_drop hu)
  have I:(prog.info? 46).map (·.size)=some 5:=by obtain⟨i0,z0,h2,_,h4,_⟩:=zS.info;rw[h2];simp[h4]
  have m:=zS.under;have K:∀j u,CS[j]? =some u->w.cell? ⟨vb,0+j,none⟩=some u:=fun j u hu=>by simp only[World.cell?,b,Nat.zero_add];simpa using hu
  have bs:IntKind.i64.wrap ((i:Int)+1)=(i:Int)+1:=by rw[IntKind.wrap_i64];omega
  have bh:(0:Int)<=(i:Int)+1:=qo;have bn:i<=n:=qo;have br:((i:Int)+1).toNat=i+1:=qo;have bq:¬((i:Int)=(n:Int)):=qo;have bk:(i:Int)<=(n:Int)+1:=qo;by_cases hroom:n+1<=c
  .have bj:¬(c=i+1):=qo;have bl:¬(c=i):=qo;have bd:∀Z S,(callFunc 156 #[.slice (some ⟨vb,0,none⟩) 1 vc,.slice (some ⟨g,(i+1) * 5,none⟩) Z S]).run prog w=.ok (.value (.bool false)) w:=fun Z S=>by
    rw[run_callFunc_extern func156 (by kernel_rfl) (by kernel_rfl) (by kernel_rfl) (e:=Extern.SlicesOverlaps.overlaps #[28,28] #[4]) (by kernel_rfl),
     Lib.run_overlaps_apart w 28 4 46 m 5 (by obtain⟨i0,z0,h2,_,h4,_⟩:=zS.info;intro w9;simp[sizeOf,typeInfo,h2,h4]) ⟨vb,0,none⟩ ⟨g,(i+1) * 5,none⟩ 1 vc Z S aq ty 46 CS.length (c * 5)
      (by simp[World.shape?,b]) (by simp[World.shape?,hg',y]) qo (aR b 0) (aR b _)]
    rfl
   have r:Hid (∀j u,(xs.drop (i * 5))[j]? =some u->w.cell? ⟨g,i * 5+j,none⟩=some u):=aA (fun j u hu=>by rw[List.getElem?_drop] at hu;simp only[World.cell?,hg'];simpa using hxc _ u hu);obtain⟨N,HV,HG,HX,O,H1,ay,ax⟩:=RX y b hg' hxc E h1 K J;obtain⟨HCS,HDL,HXL⟩:=aY d F q;clear f b hg' y hxc E h1 K J d F q H x;go_enter func107,ntmps107;go_wp2_with (simp only[bd])
   go_region_law (refine vA rfl _ _ _ _ rfl 46 5 m I g g ((i+1) * 5) ((i+1) * 5) (n - i) (c - (i+1)) g (i * 5) (i * 5) (n+1 - i) (c - i) (by simp[Act.eval,Act.put]) (by simp[Act.eval,Act.put]) rfl rfl rfl C 46 HG.o (n - i) (xs.drop (i * 5)) (by simp only[Nat.min_def];split<;>omega) HDL.o r.o (qD HDL.o N.o) O.o ?_;intro w4 hw4 hg4)
   obtain⟨C1,T⟩:=xE (C.take ((i+1) * 5)++xs.drop (i * 5)++C.drop ((i+1) * 5+(xs.drop (i * 5)).length));have a7:Hid (w4.heap[g]? =some (.cells C1.toArray 46 (0,0))):=aA (by rw[T];exact hw4.o);have aa:=aA T;have l:=aA hg4;have a1:Hid (∀j u,CS[j]? =some u->w4.cell? ⟨vb,0+j,none⟩=some u):=aA (fun j u hu=>(World.cell?_of_block (a:=⟨vb,0+j,none⟩) (hg4.block vb Y (fun e=>aq (by injection e)))).trans (ay.o j u hu));clear hw4 hg4 T;have HL1:Hid (C1.length=c * 5):=aA (by rw[aa.o];simp only[aL,List.length_take,List.length_drop];have:=N.o;have:=HXL.o;omega);go_wp2_with (refine rY rfl (.tmp 80) (.tmp 81) _ _ rfl 46 5 m I g _ (i * 5) _ _ _ _ 0 _ _ _ rfl rfl rfl rfl rfl C1 46 a7.o 1 CS (by simp only[Nat.min_def];split<;>omega) (qA HCS.o) a1.o (qD HL1.o HCS.o) H1.o ?_;intro M p o;have HW5:=aA p.o;have HG5:=aA o;clear p o)
   go_ret;unfold pL;have hgr:=(⟨l.o.os,l.o.tape,l.o.output,l.o.size,l.o.block⟩:w.grownBy w4 (some g)).trans HG5.o;have e1:(n+1) * 5=n * 5+5:=qo;have e2:(i+1) * 5=i * 5+5:=qo;have h9:=OX (C:=C) (D:=xs.drop (i * 5)) (cs:=CS) (a:=i * 5) (s:=5) (L:=n * 5) (qA N.o) (qA HDL.o) qo HCS.o (C1:=C1) (by rw[aa.o,e2]) rfl;have h8:C.take (i * 5)=xs.take (i * 5):=by rw[<-ax.o,List.take_take,Nat.min_eq_left qo]
   exact QBj
  .have W:¬(c=i):=qo;obtain⟨i0,z0,h2,h3,h4,h5,h6⟩:=zS.info;have hold:(Builtin.firstCells i0.size i (.slice (some ⟨g,0,none⟩) i c)).run prog w.drew=.ok (xs.take (i * 5)).toArray w.drew:=by
    rw[h4];refine run_firstCells_some w.drew 5 i ⟨g,0,none⟩ i c (xs.take (i * 5)) (by rw[List.length_take];omega) (fun j v hj=> ?_);exact QBF
   have X:i+(n+1 - i)=n+1:=qo;have aj:(n:Int)+1 - (i:Int)=((n+1 - i:Nat):Int):=qo;obtain⟨G,z⟩:=xE (grownCap w (n+1) c 46);obtain⟨R,hR⟩:∃R:List Value,R=xs.take (i * 5)++(Builtin.zeroCells z0.cells (n+1 - i)).toList++(Builtin.zeroCells z0.cells (G - (n+1))).toList:=⟨_,rfl⟩;obtain⟨t,B⟩:=xE (w.drew.alloc (.cells R.toArray 46));have ak:∀ty,(Builtin.append_ #[28,3] ty #[.slice (some ⟨g,0,none⟩) i c,.int .i64 ((n:Int)+1 - (i:Int))]).run prog w=.ok (.slice (some ⟨w.heap.size,0,none⟩) (n+1) G) t:=fun ty=>by
    have h:=Lib.run_append_grow_zeros w 28 3 ty 46 i0 z0 .i64 .i64 zS.under (by kernel_rfl) h2 h3 (some ⟨g,0,none⟩) i c (xs.take (i * 5)) hold (n+1 - i) qo qo qo qo (by rw[h5];omega) (by rw[h5,X];exact growslice_fits qo qo);rw[X,<-z] at h;rw[aj,h,B,hR]
    congr 3
    simp
   have ba:n+1<=G:=by rw[z];exact grownCap_ge w _ _ _
   have U:G<=maxLen:=by rw[z];exact grownCap_le_maxLen w (n+1) c _ (by unfold maxLen;omega)
   have ab:R.length=G * 5:=by
    exact QCC
   have ae:t.heap[w.heap.size]? =some (.cells R.toArray 46 (0,0)):=by rw[B];exact heap_alloc_new w.drew _
   have V:Below w.heap.size w t:=by
    have h:=aB w.drew (.cells R.toArray 46);rw[B];exact⟨h.os,h.tape,h.output,h.size,h.block⟩
   have ad:R.take (i * 5)=xs.take (i * 5):=by
    exact QCt
   have ao:∀j u,CS[j]? =some u->t.cell? ⟨vb,0+j,none⟩=some u:=fun j u hu=>(World.cell?_of_block (a:=⟨vb,0+j,none⟩) (V.block vb Y)).trans (K j u hu)
   have bf:¬(G=i):=qo;have bg:¬(G=i+1):=qo;have be:G<=9223372036854775807:=by unfold maxLen at U;omega
   have r:Hid (∀j u,(xs.drop (i * 5))[j]? =some u->w.cell? ⟨g,i * 5+j,none⟩=some u):=aA (fun j u hu=>by rw[List.getElem?_drop] at hu;simp only[World.cell?,hg'];simpa using hxc _ u hu);obtain⟨av,HGn,HGm,P,a6,HW1B,HRT,az⟩:=RX ak ba U ab ae V ad ao;obtain⟨O,H1,HCS,HDL,HXL⟩:=gC E h1 d F q;clear f b hg' y hxc E h1 K J d F q H x hold X aj z hR B ak U ab ae V ad ao h2 h3 h4 h5 h6;go_enter func107,ntmps107;go_wp2_with (first
    |(at_builtin;refine Lib.wpList_append_run _ rfl _ _ _ _ rfl _ _ rfl rfl _ _ (av.o _) ?_)
    |(refine rY rfl (.tmp 43) (.tmp 44) _ _ rfl 46 5 m I w.heap.size _ (i * 5) _ _ _ _ 0 _ _ _ rfl rfl rfl rfl rfl R 46 a6.o 1 CS (by simp only[Nat.min_def];split<;>omega) (qA HCS.o) az.o (qF P.o HCS.o HGn.o) H1.o ?_;intro M p o;have HW5:=aA p.o;have HG5:=aA o;clear p o))
   obtain⟨Q,A⟩:=xE (R.take (i * 5)++CS++R.drop (i * 5+CS.length));have au:=aA A;have a8:Hid (M.heap[w.heap.size]? =some (.cells Q.toArray 46 (0,0))):=aA (by rw[A];exact HW5.o);have af:M.heap[g]? =w.heap[g]? :=(HG5.o.block g (lL ai HW1B.o.size) (fun e=>by injection e;omega)).trans (HW1B.o.block g ai);have aw:Hid (∀j u,(xs.drop (i * 5))[j]? =some u->M.cell? ⟨g,i * 5+j,none⟩=some u):=aA (fun j u hu=>(World.cell?_of_block (a:=⟨g,i * 5+j,none⟩) af).trans (r.o j u hu));have HL1:Hid (Q.length=G * 5):=aA (by rw[A];simp only[aL,List.length_take,List.length_drop];have:=P.o;have:=HCS.o;have:=HGn.o;omega);clear r af A HW5;go_region_law (refine vA rfl _ _ _ _ rfl 46 5 m I w.heap.size w.heap.size ((i+1) * 5) ((i+1) * 5) (n - i) (G - (i+1)) g (i * 5) (i * 5) (n - i) (c - i) (by simp[Act.eval,Act.put]) (by simp[Act.eval,Act.put]) rfl rfl rfl Q 46 a8.o (n - i) (xs.drop (i * 5)) (by simp only[Nat.min_def];split<;>omega) HDL.o aw.o (qF HDL.o HL1.o HGn.o) O.o ?_;intro w6 ar ah;have HW6:=aA ar.o;have HG6:=aA ah;clear ar ah)
   go_wp2;go_ret;unfold pL;have e1:(n+1) * 5=n * 5+5:=qo;have e2:(i+1) * 5=i * 5+5:=qo;have h9:=UO (C:=R) (D:=xs.drop (i * 5)) (cs:=CS) (a:=i * 5) (s:=5) (L:=n * 5) (qD P.o HGn.o) (qA HDL.o) qo HCS.o au.o rfl;exact QAC
theorem GD{p:Prop}(h:p:=by
 exact⟨List.prefix_refl _,Int.le_refl _⟩):p:=h
theorem Dd(s:Sto)(o:Op)(what:bY):(lV s o what).aC4=s.aC4/\(lV s o what).aC2=s.aC2:=by
 unfold lV;dsimp only;split<;>exact⟨rfl,rfl⟩
theorem KP(o:Op)(d:Bool)(s:Sto)(x:Ob):(cZ o d s x).aC4=s.aC4/\(cZ o d s x).aC2=s.aC2:=by
 unfold cZ;split
 .exact Dd _ _ _
 .split
  .exact⟨rfl,rfl⟩
  .split<;>exact⟨rfl,rfl⟩
theorem mV(o:Op)(d:Bool):∀(l:List Ob) (s:Sto),(l.foldl (cZ o d) s).aC4=s.aC4/\(l.foldl (cZ o d) s).aC2=s.aC2
 | [],_=>⟨rfl,rfl⟩
 |x::l,s=>⟨(mV o d l _).1.trans (KP o d s x).1,(mV o d l _).2.trans (KP o d s x).2⟩
theorem gR(g:Bool)(s:Sto)(o:Op)(r:bY):(if g=true then gB s o r else s).aC4=s.aC4/\(if g=true then gB s o r else s).aC2=s.aC2:=by split<;>exact⟨rfl,rfl⟩
theorem De(s:Sto)(o:Op):s.aC4 <+:(dI s o).aC4/\s.aC2<=(dI s o).aC2:=by
 unfold dI;dsimp only;split
 .exact GD
 split
 .exact GD
 split
 .exact GD
 split
 .exact GD
 split
 .exact GD
 split
 .split
  .exact GD
  .exact⟨List.prefix_append _ _,Int.le_refl _⟩
 split
 .split
  .exact⟨List.prefix_refl _,by show s.aC2<=s.aC2+1;omega⟩
  .exact GD
 split
 .exact GD
 .exact GD
theorem GF(s:Sto)(o:Op):s.aC4 <+:(cY s o).1.aC4/\s.aC2<=(cY s o).1.aC2:=by
 have h:=nK s o
 rcases b:cY s o with ⟨t,r,d,e⟩
 rw[b] at h
 cases h with
 |none _ _ he k _=>exact⟨List.prefix_refl _,Int.le_refl _⟩
 |some m l glass hidden v n j g c i f p=>
  dsimp only;rw[(mV _ _ _ _).1,(mV _ _ _ _).2];by_cases a:(decide (m=(4,0))||glass)=true
  .rw[iP a];have h1:=De (if glass=true then gB s o o.aDf else s) o;rw[(gR glass s o o.aDf).1,(gR glass s o o.aDf).2] at h1;exact h1
  .rw[iN a,(gR glass s o o.aDf).1,(gR glass s o o.aDf).2];exact GD
theorem QCa{p:Prop}(h:p:=by
 obtain⟨l,rfl,hl⟩:=h;obtain⟨m,rfl,hm⟩:=k;refine⟨l++m,by rw[List.append_assoc],fun n hn=> ?_⟩
 rcases List.mem_append.1 hn with hn|hn
 .exact hl n hn
 .exact hm n hn):p:=h
def pM(a b:List xQ)(tick:Int):Prop:=∃l,b=a++l/\∀n∈l,n.aCZ=tick
theorem pM.refl(a:List xQ)(t:Int):pM a a t:=⟨[],qs,fun n h=>absurd h qs⟩
theorem pM.trans{a b c:List xQ}{t:Int}(h:pM a b t)(k:pM b c t):pM a c t:=by
 exact QCa
theorem UP(s:Sto)(o:Op)(what:bY):(lV s o what).aCY=s.aCY/\(lV s o what).aCU=s.aCU:=by
 unfold lV;dsimp only;split<;>exact⟨rfl,rfl⟩
end Go.Proofs.YtbinmcabjnoliaaGreatDoor
