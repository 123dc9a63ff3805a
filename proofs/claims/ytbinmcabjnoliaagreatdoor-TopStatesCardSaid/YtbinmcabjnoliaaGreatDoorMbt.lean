/-
  THE STATEMENT Rows.TopStatesCardSaid PROVED: for every input bailiff/bailifftop.TopStates returns true (whatever is asked, each case has its states follow one another as they may, and its events only grow), and the argument reads afterwards as it read before.
  Conditions: none beyond the row's own (it lists five package-level variables of strconv and math/bits; the card ties them to the program's text).
-/
import Derived.Test.YtbinmcabjnoliaaGreatDoorMbs
import Derived.LaidMore
import Derived.Stop.Joined
import Derived.SliceStrings
import Derived.Test.YtbinmcabjnoliaaGreatDoorCards
import Derived.Test.YtbinmcabjnoliaaGreatDoorTie
import Derived.SevenTiedAt
namespace Go.Proofs.YtbinmcabjnoliaaGreatDoor
open Go.RowKit
set_option linter.unusedVariables false
set_option linter.unusedSimpArgs false
set_option maxHeartbeats 16000000
open _root_.Go.Proofs.Tryz
set_option maxRecDepth 20000
theorem own:ownKnob prog.godebug=none:=by kernel_rfl
theorem Wk:laidOutB prog=true:=by kernel_rfl
section
open Go.ChangeShapes Go.WideShapes Go.ChangeAt Go.Deep
def MC:List (String×DataW Unit):=[("math/bits.deBruijn32tab",Rows.laid_math_bits_deBruijn32tab),("math/bits.deBruijn64tab",Rows.laid_math_bits_deBruijn64tab),("internal/strconv.uint64pow10",Rows.laid_internal_strconv_uint64pow10),("strconv.ErrRange",Rows.laid_strconv_ErrRange),("strconv.ErrSyntax",Rows.laid_strconv_ErrSyntax)]
theorem aAp{W:World}(i:W.ShapedOpen prog)(h:laidMetH prog MC W):Gl W/\6<=W.heap.size:=by
 rw[MakeChecks.laidMetH_plain _ _ _ (by kernel_rfl)] at h;obtain⟨H,⟨g0,t0,q,f0,D,q0,z,A,C,x,⟨g1,t1,r,f1,E,q1,f,B,a,y,⟨g2,t2,s,f2,F,I,g,j,o,d,⟨g3,t3,t,f3,G,J,b,l,p,e,_,_⟩,_⟩,_⟩,_⟩,_⟩:=h;obtain rfl:=Option.some.inj ((show prog.globalNamed "strconv.ErrRange"=some 2 by kernel_rfl).symm.trans b);obtain rfl:=Option.some.inj ((show prog.globalNamed "math/bits.deBruijn64tab"=some 5 by kernel_rfl).symm.trans f);have m:(prog.globals[2]?).map (·.type)=some 148:=by kernel_rfl
 obtain rfl:=Option.some.inj (m.symm.trans l);have n:(prog.globals[3]?).map (·.type)=some 306:=by kernel_rfl
 obtain rfl:=Option.some.inj (WI.symm.trans g);obtain rfl:=Option.some.inj (n.symm.trans j);have h6:6<=W.heap.size:=by
  unfold World.var? at a;rw[show prog.globalNamed "math/bits.deBruijn64tab"=some 5 by kernel_rfl] at a
  rcases Nat.lt_or_ge 5 W.heap.size with h2|h2
  .exact h2
  .simp[Array.getElem?_eq_none h2] at a
 refine⟨⟨?_,(laysM220.s1_3 W i),?_⟩,h6⟩
 .obtain⟨w,u,v,c,_,_⟩:=iface_of_trod underlying148 e;have:=World.var?_cell b p 0;rw[Array.eq_one_of_toList c] at this;exact⟨_,by simpa using this,.inr ⟨u,v,rfl⟩⟩
 .unfold Lib.TabIs;rw[o,<-Lib.cells_of_tab (zs:=Lib.pow10Tab) (k:= .u64) underlying306 underlying67 (by kernel_rfl) (by kernel_rfl) d]
section
variable {H:Type} {enc:TypeId×Value->H} {P:Program} {W:World} {sp:Nat->Bool} {held:Bool}
theorem Fh{r:Reach}{b0:Nat}{t e:TypeId}{v:Value}{d:DataW H}{p:List MemPlace}(n:P.underlying t=some (.slice e))(he:P.underlying e=some .string)(s:P.cellsOf e=1)
 (D:Value.okWide P W r b0 t v)(h:DataW.Trod enc P W 0 sp held t v d p):
 ∃(a:oD) (cap:Nat) (l:List ByteArray),v=.slice a l.length cap/\l.length<=maxLen/\Mh W a l:=by
 obtain⟨a0,len,cap,rfl⟩:=okWide_slice n D;obtain⟨fuel,B⟩:=h
 rcases open_strings n he s B with ⟨f,_⟩|⟨a,J,F,j,f,_,I,hm,E,_,A,C⟩
 .simp[Value.cells] at f;obtain⟨rfl,rfl,rfl⟩:=f;exact⟨none,0,[],rfl,qs,fun k g=>absurd g qs⟩
 .simp[Value.cells] at f;obtain⟨rfl,rfl,rfl⟩:=f;have hlen:len<=j.length:=by rw[E];split<;>omega
  have m:(j.take len).length=len:=by rw[List.length_take];omega
  refine⟨some a,cap,j.take len,by rw[m],qo,fun k g=> ?_⟩;have G:k<len:=qo;have w:Sl W W.heap.size (some a) ((j.take len).map Value.string):=Sl.of_cells fun i x c=>by
   simp only[List.getElem?_map,List.getElem?_take] at c;split at c
   .rw[gE qo] at c;simp only[Option.map_some,Option.some.injEq] at c;subst c;rw[A i qo,List.getD_eq_getElem?_getD,gE qo];rfl
   .simp at c
  obtain⟨b,off,q,y,z⟩:=w (by intro o;have:=congrArg List.length o;simp only[List.length_map,m,List.length_nil] at this;omega);exact⟨b,off,q,y,z k _ (by rw[List.getElem?_map,gE g];rfl),C _ (List.mem_of_mem_take (List.getElem_mem g))⟩
end
theorem NU{H:Type}{enc:TypeId×Value->H}{a:Assume}{C:Checked}{os:Os}{f:FuncId}{fn:Func}{s:ChangeSpec}{conds:List PathCond}{apart fresh handsOn again:Bool}{X:World->Array Value->Prop}
 (k:∀(w w':World) (args:Array Value),w.heap=w'.heap->X w args->X w' args)
 (own:ownKnob C.prog.godebug=none)(started:os.Started)(y:C.prog.inits.idxOf? f=none)(l:C.prog.funcs[f]? =some fn)
 (witness:∃(w:World) (tape:Tape) (i:Input),w.os=os/\(w.forCall tape i).Shaped C.prog/\i.vars=[]/\Input.okWide C.prog (w.forCall tape i) .any w.heap.size f i/\
   ((s.pre enc C.prog fn conds apart (w.forCall tape i).memory i.args/\X (w.forCall tape i).memory i.args)/\sizedMet enc C.prog fn (OpenSpec.ofChange s) apart (w.forCall tape i).memory i.args)/\a.holds C.prog (lone (Frame.enter C.prog f i.args .normal) [] (w.forCall tape i)))
 (d:∀(W:World) (base:Nat) (args:Array Value) (b gs:List (DataW H)) (before:List MemPlace),W.ShapedOpen C.prog->
   (∀(j:Nat) t v,fn.params[j]? =some t->args[j]? =some v->Value.okWide C.prog W .any base t v)->
   DataW.Whole enc C.prog fn.params.toList s.vars apart W args.toList b gs before->X W args->
   Calls C.prog f args W fun e c=>∃v,e=.returned v/\s.post enc C.prog fn apart fresh handsOn again W args v c):
 ReturnsInHanded a C os f .any (fun w args=>(s.pre enc C.prog fn conds apart w args/\X w args)/\sizedMet enc C.prog fn (OpenSpec.ofChange s) apart w args) (s.post enc C.prog fn apart fresh handsOn again):=by
 refine returnsInHanded_of_calls own started y witness ?_;intro w tape i _ p _ n o A;obtain⟨_,_,_,g,m,_,_,_,_,q⟩:=n;have e:g=fn:=Option.some.inj (m.symm.trans l);subst e;obtain⟨⟨⟨b,gs,before,hw,z⟩,x⟩,B⟩:=o;have r:=DataW.Whole.of_heap (w':=w.forCall tape i) (by rfl) hw;refine(d (w.forCall tape i) w.heap.size i.args b gs before p q r (k _ _ _ (by rfl) x)).mono fun e c ⟨v,he,hp⟩=> ?_
 subst he;exact ChangeSpec.post_blind hp
theorem Rd(os:Os)(args:Array Value):laidMetH prog MC ((World.doorLaid prog 400 os).forCall (fun _ _=>0) ⟨#[],args,[]⟩).memory:=
 laidMetH_of_parts3 (fuel:=8) (laidMet_of_run' 8 (by kernel_rfl) (by kernel_rfl)) (by kernel_rfl) (by kernel_rfl)
end
theorem Re(s:Sto)(o:Op):s.aCZ<=(cY s o).1.aCZ:=by
 have h:=nK s o
 rcases f:cY s o with ⟨t,r,d,e⟩
 rw[f] at h
 cases h with
 |none _ _ he q _=>exact Int.le_refl _
 |some m l glass hidden v g p k i n j w=>
  dsimp only;rw[xT];by_cases b:(decide (m=(4,0))||glass)=true
  .rw[iP b,Gw,uM];have key:∀(c:Prop) [Decidable c],(c->0<=o.aDd)->s.aCZ<=(if c then s.aCZ+o.aDd else s.aCZ):=fun c _ h=>by
    by_cases a:c
    .rw[iP a];have:=h a;omega
    .rw[iN a];omega
   exact key _ (fun h8=>qA (rZ (lI g) h8.2))
  .rw[iN b,uM];omega
theorem Fi{s:Sto}(h:vB s)(q:lU):s.aCZ<=(eL s q).1.aCZ/\s.aC2<=(eL s q).1.aC2/\s.aCQ.length<=(eL s q).1.aCQ.length/\∀c∈s.aCQ,∃d∈(eL s q).1.aCQ,eF (eL s q).1 c.id=some d/\gX c d:=by
 have key:s.aCZ<=(eL s q).1.aCZ/\s.aC2<=(eL s q).1.aC2/\vB (eL s q).1/\kO s (eL s q).1:=by
  rcases b:kW q with _|o
  .rw[QI b];exact⟨Int.le_refl _,Int.le_refl _,h,kO.refl s⟩
  .rw[QJ b];exact⟨Re s o,(GF s o).2,(DN s o h).1,(DN s o h).2⟩
 generalize (eL s q).1=t at *;obtain⟨h1,h2,h3,h4,h5⟩:=key;refine⟨h1,h2,h4,fun c f=> ?_⟩;obtain⟨d,a,e⟩:=h5 c f;obtain⟨k,g,rfl⟩:=List.getElem_of_mem a;exact⟨_,a,by rw[<-e.id];exact(Df h3.1.aDv g).2,e⟩
theorem Wl(a b:bY):(a.toList != b.toList)= !decide (a=b):=by
 show (!(a.toList==b.toList))=_;rw[iG]
theorem IF{α:Type}{l m:List α}(h:l <+:m):l.length<=m.length/\m.take l.length=l:=by
 obtain⟨r,rfl⟩:=h;exact⟨by rw[aL];omega,List.take_left' rfl⟩
theorem QBJ{p:Prop}(h:p:=by
 have hk1:¬(k:Int)<(l.length:Int):=qo;obtain rfl:k=l.length:=qo;have HF:=aA (dX (Wm HL.o (fun i hi hj=>HR.o i hi hj hi)));clear HR;go_wp2;go_returns;exact⟨by rw[HF.o];rfl,HB.o⟩):p:=h
theorem QAH{p:Prop}(h:p:=by
 obtain⟨g,hg⟩:=xE (decide (l[k]=m[k]));rw[<-hg] at hne;have HG:=aA hg;have HST:Hid (l[k]=m[k]->∀i (hi:i<l.length) (hj:i<m.length),i<k+1->l[i]=m[i]):=aA (fun e i hi hj h=>by
  rcases Nat.lt_or_ge i k with h1|h1
  .exact HR.o i hi hj h1
  .obtain rfl:i=k:=qo;exact e)
 have HNE:Hid (l[k]≠m[k]->decide (l=m)=false):=aA (fun e=>dF (fun h=>e (by simp only[h])));clear hcl hcm hgd hgd2 hg HR;generalize l[k]=y at *;generalize m[k]=z at *;go_wp2;go_quiet (fail)
 have HB':=aA (fJ HB.o ⟨nq,rfl⟩);clear hne
 cases g
 .have HF:=aA (HNE.o (of_decide_eq_false HG.o.symm));go_wp2;go_returns;exact⟨by rw[HF.o];rfl,HB'.o⟩
 .have HF:=aA (HST.o (of_decide_eq_true HG.o.symm));go_wp2;go_roundw
  case rel=>exact⟨k+1,qo,by go_num,HF,HB'⟩
  case measure=>simp[intOf];omega):p:=h
theorem gY.take{w:World}{ok:nP}{a:oD}{xs:List Value}(h:gY w ok a xs)(n:Nat):gY w ok a (xs.take n):=fun g=>by
 obtain⟨b,off,e,d,f⟩:=h (by rintro rfl;exact g qs);refine⟨b,off,e,d,fun i x c=>f i x ?_⟩;rw[List.getElem?_take] at c;split at c
 .exact c
 .cases c
theorem aH.take{α:Type}{R:Rep α}{s:Nat}(F:Firm R s){w:World}{ok:nP}{a:oD}{n c:Nat}{l:List α}(h:aH R w ok (.slice a n c) l){k:Nat}(d:k<=l.length)(b:Nat):aH R w ok (.slice a k b) (l.take k):=by
 obtain⟨i,c2,cs,e,h1,h2,h3⟩:=h;injection e with f _ _;subst f;exact⟨a,b,cs.take (k * s),by rw[List.length_take,Nat.min_eq_left d],h1.take _,(h2.split (fun r x g=>F.len g) k d).1,by rw[List.length_take];omega⟩
theorem gY.drop{w:World}{ok:nP}{a:oD}{xs:List Value}(h:gY w ok a xs)(k:Nat):gY w ok (a.map (·.add k)) (xs.drop k):=fun g=>by
 obtain⟨b,off,e,d,f⟩:=h (by rintro rfl;exact g qs);refine⟨b,off+k,by rw[e];simp[Addr.add],d,fun i x c=> ?_⟩;rw[List.getElem?_drop] at c;rw[Nat.add_assoc];exact f _ _ c
theorem aH.drop{α:Type}{R:Rep α}{s:Nat}(F:Firm R s){w:World}{ok:nP}{a:oD}{n c:Nat}{l:List α}(h:aH R w ok (.slice a n c) l){k:Nat}(i:k<=l.length)(m:l.length<=c)(d:Nat):aH R w ok (.slice (if c=k then a else a.map (·.add (k * s))) (l.length - k) d) (l.drop k):=by
 obtain⟨j,c2,cs,e,h1,h2,h3⟩:=h;injection e with g _ _;subst g;have f:=(h2.split (fun r x b=>F.len b) k i).2;refine⟨_,d,cs.drop (k * s),by rw[List.length_drop],?_,f,by rw[List.length_drop];omega⟩;split
 .rename_i o;have h4:=f.len (fun r x b=>F.len b);rw[show (l.drop k).length=0 by rw[List.length_drop];omega,Nat.zero_mul] at h4;rw[List.eq_nil_of_length_eq_zero h4];exact gY.nil
 .exact h1.drop _
theorem Wm{α:Type}{l m:List α}(h:l.length=m.length)(a:∀i (b:i<l.length) (hj:i<m.length),l[i]=m[i]):l=m:=List.ext_getElem h a
theorem Mi(x y:rS)(w:World):Sem.run prog (binOp .neq 52 (.agg #[.int .i64 x.aCZ,.string x.aDo,.string x.aDP]) (.agg #[.int .i64 y.aCZ,.string y.aDo,.string y.aDP])) w=.ok (.bool (!decide (x=y))) w:=by
 obtain⟨b,c,d⟩:=x;obtain⟨e,f,g⟩:=y;have u3:=underlying3;have a3:=isAgg3;have z3:=sizeOf3;have u9:=underlying9;have a9:=isAgg9;have z9:=sizeOf9;have a:prog.underlying 52=some (.struct (prog.fieldsOf 52)):=by kernel_rfl
 have hp:prog.stoodInHeld 52=false:=by kernel_rfl
 rw[run_neq_struct,show (10000:Nat)=9999+1 from rfl,run_equalIn_agg w 9999 52 _ _ a hp];simp only[Program.fieldsOf,underlying52];go_simp;by_cases h0:b=e<;>by_cases h1:c=f<;>by_cases h2:d=g<;>simp[h0,h1,h2,tY]
theorem YX{ok ok':nP}(v u:Value)(l m:List rS)(w:World)(h:aH lE w ok v l)(f:aH lE w ok' u m):Calls prog 10 #[v,u] w (aO (.bool (decide (l=m))) w):=by
 obtain⟨a,c,rfl,_⟩:=h.slice;obtain⟨b,d,rfl,_⟩:=f.slice;have j:=aA h;have n:=aA f;clear h f;unfold aO;by_cases hlen:l.length=m.length
 .have o:((l.length:Int) != (m.length:Int))=false:=by rw[hlen];simp
  have HL:=aA hlen;clear hlen;go_enter func10,ntmps10;go_wp2;go_loopw [5] (fun i wr=>∃k:Nat,k<=l.length/\i=.int .i64 k/\Hid (∀i (hi:i<l.length) (hj:i<m.length),i<k->l[i]=m[i])/\Hid (Below w.heap.size w wr)) (fun i _=>l.length - (intOf i).toNat)
  case atStart=>exact⟨0,qo,rfl,aA (fun i _ _ h=>absurd h qo),aA (Below.refl _ _)⟩
  case round=>
   obtain⟨k,B,rfl,HR,HB⟩:=hrel;by_cases p:k<l.length
   .have q:k<m.length:=qA HL.o;have hk1:(k:Int)<(l.length:Int):=qo;have C:(k:Int)<(m.length:Int):=qo;obtain⟨b1,off,r,rfl,_,x,⟨rfl,hgd⟩,hcl⟩:=aH.at bS (j.o.on bS HB.o) p qe;obtain⟨b2,D,E,rfl,_,A,⟨rfl,hgd2⟩,hcm⟩:=aH.at bS (n.o.on bS HB.o) q qe;obtain⟨s,F,G⟩:=cR3 hcl;obtain⟨t,H,I⟩:=cR3 hcm;rw[Nat.add_zero] at s t;have hne:=Mi l[k] m[k];exact QAH
   .exact QBJ
 .have o:((l.length:Int) != (m.length:Int))=true:=by simp;omega
  have HF:=aA (dF (show ¬l=m from fun h=>hlen (by rw[h])));clear hlen;go_enter func10,ntmps10;go_wp2;go_returns;exact⟨by rw[HF.o];rfl,Below.refl _ _⟩
theorem Mj(x y:oH)(w:World):Sem.run prog (binOp .neq 57 (.agg #[.string x.1,.int .i64 x.2.1,.int .i64 x.2.2.1,.string x.2.2.2]) (.agg #[.string y.1,.int .i64 y.2.1,.int .i64 y.2.2.1,.string y.2.2.2])) w=.ok (.bool (!decide (x=y))) w:=by
 obtain⟨k,a,b,c⟩:=x;obtain⟨l,d,e,f⟩:=y;have u3:=underlying3;have a3:=isAgg3;have z3:=sizeOf3;have u9:=underlying9;have a9:=isAgg9;have z9:=sizeOf9;have g:prog.underlying 57=some (.struct (prog.fieldsOf 57)):=by kernel_rfl
 have hp:prog.stoodInHeld 57=false:=by kernel_rfl
 have m:=isAgg55;have o:=sizeOf55;have i:prog.underlying 55=some (.struct (prog.fieldsOf 55)):=by kernel_rfl
 have j:prog.stoodInHeld 55=false:=by kernel_rfl
 have n:∀w,Sem.run prog (Op.equalIn 9999 55 (.agg #[.int .i64 a,.int .i64 b,.string c]) (.agg #[.int .i64 d,.int .i64 e,.string f])) w=.ok (decide (a=d/\b=e/\c=f)) w:=fun w=>by
  rw[show (9999:Nat)=9998+1 from rfl,run_equalIn_agg w 9998 55 _ _ i j];simp only[Program.fieldsOf,underlying55];go_simp;by_cases h1:a=d<;>by_cases h2:b=e<;>by_cases h3:c=f<;>simp[h1,h2,h3,tY]
 rw[run_neq_struct,show (10000:Nat)=9999+1 from rfl,run_equalIn_agg w 9999 57 _ _ g hp];simp only[Program.fieldsOf,underlying57];go_simp;by_cases h0:k=l<;>by_cases h1:a=d<;>by_cases h2:b=e<;>by_cases h3:c=f<;>simp[h0,h1,h2,h3,tY]
theorem YY{ok ok':nP}(v u:Value)(l m:List oH)(w:World)(h:aH kM w ok v l)(f:aH kM w ok' u m):Calls prog 11 #[v,u] w (aO (.bool (decide (l=m))) w):=by
 obtain⟨a,c,rfl,_⟩:=h.slice;obtain⟨b,d,rfl,_⟩:=f.slice;have j:=aA h;have n:=aA f;clear h f;unfold aO;by_cases hlen:l.length=m.length
 .have o:((l.length:Int) != (m.length:Int))=false:=by rw[hlen];simp
  have HL:=aA hlen;clear hlen;go_enter func11,ntmps11;go_wp2;go_loopw [5] (fun i wr=>∃k:Nat,k<=l.length/\i=.int .i64 k/\Hid (∀i (hi:i<l.length) (hj:i<m.length),i<k->l[i]=m[i])/\Hid (Below w.heap.size w wr)) (fun i _=>l.length - (intOf i).toNat)
  case atStart=>exact⟨0,qo,rfl,aA (fun i _ _ h=>absurd h qo),aA (Below.refl _ _)⟩
  case round=>
   obtain⟨k,B,rfl,HR,HB⟩:=hrel;by_cases p:k<l.length
   .have q:k<m.length:=qA HL.o;have hk1:(k:Int)<(l.length:Int):=qo;have C:(k:Int)<(m.length:Int):=qo;obtain⟨b1,off,r,rfl,_,x,⟨rfl,hgd⟩,hcl⟩:=aH.at bL (j.o.on bL HB.o) p qe;obtain⟨b2,D,E,rfl,_,A,⟨rfl,hgd2⟩,hcm⟩:=aH.at bL (n.o.on bL HB.o) q qe;obtain⟨s,F,G,H⟩:=SG hcl;obtain⟨t,I,J,K⟩:=SG hcm;rw[Nat.add_zero] at s t;have hne:=Mj l[k] m[k];exact QAH
   .exact QBJ
 .have o:((l.length:Int) != (m.length:Int))=true:=by simp;omega
  have HF:=aA (dF (show ¬l=m from fun h=>hlen (by rw[h])));clear hlen;go_enter func11,ntmps11;go_wp2;go_returns;exact⟨by rw[HF.o];rfl,Below.refl _ _⟩
theorem NV(a:oD)(c:Nat)(l:List ByteArray)(hl:l.length<=maxLen)(w:World)(hs:Mh w a l)(hg:Gl w)(h6:6<=w.heap.size):Calls prog 3 #[.slice a l.length c] w fun e w'=>e=.returned (.bool true)/\Below w.heap.size w w':=by
 have O:=aA (WU 200000 qe w hg h6);have cm:=aA (fun w' (d:Below w.heap.size w w')=>Mg w' (hg.on d) (lT h6 d.size));obtain⟨HG,H6,HS,cr⟩:=dG hg h6 hs hl;clear hg h6 hs hl;go_enter func3,ntmps3;go_wp2_with fail;refine O.o.mono ?_;rintro e w1 ⟨E,D,rfl,G⟩;have bh:=aA G;have a7:=G.below;have bn:=aA (Mf (ok:=fun _=>True) a c l cr.o 40 qe w1 (fun k hk=>by
  obtain⟨b,off,h1,h2,h3,h4⟩:=HS.o k hk;exact⟨b,off,h1,lL h2 a7.size,(a7.cell (p:=⟨b,off+k,none⟩) h2).trans h3,h4⟩))
 clear G a7 O;go_wp2_with fail;refine bn.o.mono ?_;rintro e w2 ⟨v,rfl,hv,d⟩;obtain⟨L,hL⟩:=xE (yZ l 40);rw[<-hL] at hv;have P:Hid (L.length<=40/\∀x∈L,x.size<=600):=aA (by
  rw[hL];unfold yZ;refine⟨by rw[List.length_map,List.length_take];omega,fun x hx=> ?_⟩;obtain⟨y,_,rfl⟩:=List.mem_map.1 hx;exact Me y)
 obtain⟨la,lc,rfl,-⟩:=hv.slice;obtain⟨cl,ct,de⟩:=aY (bh.o.one.grow d) (aH.inb vP hv) d;clear d hv hL bh bn;go_wp2;go_loopw [22] (fun i wr=>∃(k m:Nat) (s:Sto),k<=L.length/\i=.int .i64 k/\Hid (uI w (fun b=>w1.heap.size<=b/\b<w2.heap.size) E D 200000 m k s wr)/\Hid (m<=1000 * k)/\Hid (mG k s)/\Hid (aN (fun b=>w1.heap.size<=b/\b<w2.heap.size) w2 wr)) (fun i _=>L.length - (intOf i).toNat)
 case atStart=>exact⟨0,0,mQ,qo,rfl,aA (cl.o.sub fun b d=> .inr d),aA qo,aA WA,aA (aJ (Below.refl _ _))⟩
 case round=>
  obtain⟨k,m,s,hk,rfl,HE,HM,W,aw⟩:=hrel;by_cases cb:k<L.length
  .have cu:=aA (aH.aC0 vP ct.o ((aw.o).mono fun b _ d=>by exact⟨d.1,d.2⟩));obtain⟨b,off,r,rfl,dk,dm,⟨rfl,b8⟩,hc⟩:=aH.at vP cu.o cb qe;obtain⟨q,hq⟩:=xE (L[k]);rw[<-hq] at b8 hc;have c7:=hc 0 _ rfl;rw[Nat.mul_one,Nat.add_zero] at c7;have cf:q.size<=600:=by rw[hq];exact P.o.2 _ (List.getElem_mem cb)
   have HQ:=aA cf;have bs:=aA (QN HE.o);have c1:(k:Int)<(L.length:Int):=qo;clear hc b8 hq cf;go_wp2_with fail;refine bs.o.mono ?_;rintro e w3 ⟨K,vc,vr,vn,vo,vt,vu,vk,vb,rfl,J,G,T⟩;obtain⟨ca,cc,ra,rc,na,nc,oa,oc,ta,tc,ua,uc,ka,kc,ba,bc,rfl,-,rfl,-,rfl,-,rfl,-,rfl,-,rfl,-,rfl,-,rfl,-⟩:=J.sl;obtain⟨bz,be,Y⟩:=aY J G T;unfold aV;clear J G T bs;go_upto_region 8 with (refine eI rfl _ (.tmp 7) (.tmp 27) rfl w3.heap.size _ rfl rfl _ _ (aK _ _ _ rfl) (by kernel_rfl) rfl (by simp[Value.oneCell']) ?_;intro w4 au bu)
   have Z:=aA (pH (lR _) bu.o);have bf:=aA (be.o.grow Z.o);have b3:=aA (aD au.o);have bm:=aA (Rc HG.o H6.o bf.o q (qA HQ.o) W.o (qA P.o.1) (qA P.o.1) (qF HQ.o HM.o P.o.1) qe);clear bu;go_wp2_with fail;refine bm.o.mono ?_;rintro e w5 ⟨rfl,m5,hA5,a1,-,cd,-⟩;obtain⟨bp,cv,av⟩:=aY (aF au.o a1 (.inr ⟨lR _,b3.o⟩)) cd a1;obtain⟨t,ht⟩:=xE ((eL s q.data.toList).1);obtain⟨an,a6⟩:=xE ((eL s q.data.toList).2);rw[<-ht] at hA5;rw[<-a6];obtain⟨cj,HT,bw⟩:=aY hA5 (And.intro ht a6) (QN hA5);clear hA5 a1 cd ht a6 bm au;go_wp2_with fail;refine bw.o.mono ?_;rintro e w6 ⟨K6,eb,tr,tn,to_,tt,tu,tk,tb,rfl,J,G,a8⟩;obtain⟨di,dj,dx,dy,ds,dt,du,dv,dz,ea,ec,ed,dq,dr,df,dh,rfl,-,rfl,-,rfl,-,rfl,-,rfl,-,rfl,-,rfl,-,rfl,-⟩:=J.sl;obtain⟨b0,bg,aj,bq⟩:=dG J G a8 (aE bp.o a8);unfold aV;clear J G a8 bw bp;go_upto_region 10 with (refine eI rfl _ (.tmp 8) (.tmp 32) rfl w6.heap.size _ rfl rfl _ _ (aK _ _ _ rfl) (by kernel_rfl) rfl (by simp[Value.oneCell']) ?_;intro w7 br bx)
   have N:=aA (pH (lR _) bx.o);have ak:Hid (mG (k+1) t):=aA (by rw[HT.o.1];exact W.o.line _);have Q:=aA (Fi W.o.ok q.data.toList);rw[<-HT.o.1] at Q;have cy:Hid (aN (fun b=>w1.heap.size<=b/\b<w2.heap.size) w2 w7):=aA (aw.o.trans ((aJ Y.o).trans ((aJ Z.o).trans ((av.o.mono fun b _ d=> .inl (.inl d)).trans ((aJ aj.o).trans (aJ N.o))))));have ck:=aA ((bg.o.sub (P':=fun b=>w1.heap.size<=b/\b<w2.heap.size) fun b d=> .inl (.inl (.inl d))).on N.o);have b1:=aA ((((bz.o.on Z.o).aC0 (av.o.mono fun b _ d=> .inl (.inr d))).on aj.o).on N.o);obtain⟨cz,cx,AS⟩:=aY (b0.o.on N.o) b1.o.aCQ (aE bq.o N.o);have V:=br;have n1:=Q.o.1;have n2:=Q.o.2.1;have n3:=Q.o.2.2.1;have g1:decide (t.aCZ<s.aCZ)=false:=dF qo;have g2:decide (t.aC2<s.aC2)=false:=dF qo;have g3:decide (t.aCQ.length<s.aCQ.length)=false:=dF qo;obtain⟨⟨t0,t1,-,-,-,-,-,-,-,-,-,-,t12⟩,-⟩:=bT V.o;obtain⟨⟨s0,s1,-,-,-,-,-,-,-,-,-,-,da⟩,-⟩:=bT AS.o;have zt:=aD V.o;have zs:=aD AS.o;have cn:Hid (s.aCQ.length<=64):=aA W.o.ok.1.few;clear bq br bz b0 Y Z av aj N aw be bf cj bg HT bx b3 b1;go_upto_region 12 with (fail)
   clear g1 g2 g3 n1 n2 n3 t0 t1 t12 s0 da zt;go_wp2;go_loopw [57] (fun i wr=>∃j:Nat,j<=s.aCQ.length/\i=.int .i64 j/\Hid (Below w7.heap.size w7 wr)) (fun i _=>s.aCQ.length - (intOf i).toNat)
   case atStart=>exact⟨0,qo,rfl,aA (Below.refl _ _)⟩
   case round=>
    obtain⟨j,hj,rfl,HJ⟩:=hrel;clear s1 zs;by_cases b9:j<s.aCQ.length
    .have c6:(j:Int)<(s.aCQ.length:Int):=qo;obtain⟨b2,dw,r2,rfl,_,dn,⟨vf,vl,rfl,U⟩,o⟩:=aH.at dM (aH.on dM cx.o HJ.o) b9 qe;obtain⟨fa,fc,rfl,-⟩:=U.2.2.2.1.slice;obtain⟨ga,gc,rfl,-⟩:=U.2.2.2.2.slice;obtain⟨D,bb,hD,bd⟩:=Q.o.2.2.2 _ (List.getElem_mem b9);obtain⟨C,hC⟩:=xE (s.aCQ[j]);rw[<-hC] at U o hD bd;obtain⟨x0,x1,x2,x3,x4⟩:=FQ o;rw[Nat.add_zero] at x0;obtain⟨ao,HD,R⟩:=aY U hD bd;have bj:Hid (D.log.length<=256/\D.aCW.length<=16):=aA ⟨(wI.1 ak.o.ok.2).2.2 _ bb,(ak.o.ok.1.each _ bb).aCW⟩;clear o U hC hD bd bb;go_upto_region 15 with (refine eI rfl _ (.tmp 10) (.tmp 60) rfl wr.heap.size _ rfl rfl _ _ (aK _ _ _ rfl) (by kernel_rfl) rfl (by simp[Value.oneCell']) ?_;intro dc ae af)
     have ai:=aA (pH (lR _) af.o);have ad:=qB HJ ai.o;have ab:=aA (xA t _ _ _ _ _ _ _ _ C.id dc (cz.o.on ad.o));rw[HD.o] at ab;obtain⟨⟨t0,t1,t2,t3,t4,t5,t6,t7,t8,t9,t10,t11,t12⟩,-⟩:=bT (aE V.o ad.o);have zt:=aD (aE V.o ad.o);obtain⟨⟨y0,-,-,-,-⟩,-⟩:=cP ae.o;have zy:=aD ae.o;unfold aV at ab;clear x0 x1 x2 x3 x4 af;go_wp2_with fail;refine ab.o.mono ?_;rintro e dd (⟨h0,-⟩|⟨D',vf,vl,ax,rfl,ay,az,b4⟩)
     .cases h0
     injection ax with ax;subst ax;obtain⟨va,vc,rfl⟩:=ay.slice;obtain⟨db,ah,rfl⟩:=az.slice;obtain⟨bk,ar,X⟩:=aY ay az b4;clear ay az b4 ab t0 t1 t2 t3 t4 t5 t6 t7 t8 t9 t10 t11 t12 zt y0 zy;go_upto_region 16 with (refine eI rfl _ (.tmp 11) (.tmp 66) rfl dd.heap.size _ rfl rfl _ _ (aK _ _ _ rfl) (by kernel_rfl) rfl (by simp[Value.oneCell']) ?_;intro H bo cw)
     have M:=aA (pH (lR _) cw.o);have f:=qK ae (aC X.o M.o);have g:=bo;have cp:=qB ad (aC X.o M.o);have kc:D.log.length<=ah:=yM ar.o _ _ _ rfl;have p1:=(IF R.o.log).1;have c8:C.log.length<=ah:=qo;have g1:decide (D.log.length<C.log.length)=false:=dF qo;have al:Hid (∀w',Below H.heap.size H w'->Calls prog 10 #[.slice db C.log.length ah,.slice ga C.log.length gc] w' (aO (.bool true) w')):=aA (fun w' d=>by
      have:=YX _ _ _ _ w' (aH.take bS ((ar.o.sl (qA bj.o.1) (fun _=>True) (fun _ _ _=>trivial) (fun _ _ _=>trivial) bS).on bS (aC M.o d)) p1 ah) (ao.o.2.2.2.2.on bS (aC (aC ai.o X.o) (aC M.o d)));rwa [dX (IF R.o.log).2] at this)
     have aa:Hid (C.aDa=lH->∀w',Below H.heap.size H w'->Calls prog 11 #[.slice fa C.aCW.length fc,.slice va D.aCW.length vc] w' (aO (.bool true) w')):=aA (fun o w' d=>by
      have:=YY _ _ _ _ w' (ao.o.2.2.2.1.on bL (aC (aC ai.o X.o) (aC M.o d))) ((bk.o.sl (qA bj.o.2) (fun _=>True) (fun _ _ _=>trivial) (fun _ _ _=>trivial) bL).on bL (aC M.o d));rwa [dX (R.o.shut o).symm] at this)
     obtain⟨q1,ag⟩:∃q:Bool,q= !decide (D.aDa=C.aDa):=⟨_,rfl⟩;have e1:(D.aDa.toList != C.aDa.toList)=q1:=by rw[ag,Wl]
     have e2:(D.aDa.toList==C.aDa.toList)= !q1:=by rw[ag,iG,Bool.not_not]
     have O:Hid (q1=true->∀w',Calls prog 9 #[.string C.aDa,.string D.aDa] w' (aO (.bool true) w')):=aA (fun h w'=>by
      have h1:=R.o.aDa.resolve_left (fun e=>by rw[ag,dX e] at h;cases h);have:=DI C.aDa D.aDa w';rwa [h1] at this)
     unfold aO at al aa O;have aq:=aA ((Below.refl H.heap.size H).drew);clear kc ag p1 bk ar ao R ae bo;obtain⟨⟨-,-,c2,c3,c4⟩,-⟩:=cP (aE f.o (Below.refl _ _));obtain⟨⟨-,-,d2,d3,d4⟩,-⟩:=cP (aE g.o (Below.refl _ _));have z:=aD (aE f.o (Below.refl _ _));have A:=aD (aE g.o (Below.refl _ _));go_upto_region 16 with (fail)
     cases q1
     all_goals (
      refine cA 37 [(0,false),(1,false),(2,false),(3,false),(4,false),(5,false),(6,false),(7,false),(8,false),(9,false),(10,false),(11,false),(12,false),(13,true),(14,false),(15,false),(16,false),(17,false),(18,false),(19,false),(20,false),(21,false),(22,false),(23,false),(24,false),(25,false),(26,false),(27,false),(28,false),(29,false),(30,false),(31,false),(32,false),(33,false),(34,false),(35,true),(36,false)] [(37,true)] (fun w'=>Below H.heap.size H w') (by decide +kernel) (by decide +kernel) aq.o ?_;simp only[List.cons_append,List.nil_append]
      repeat (refine cU rfl (fun K n=> ?_);unfold rd;go_simp;refine n _ (fun cg h1=> ?_) ?_;(· clear n K c2 c3 c4 d2 d3 d4 z A;obtain⟨⟨-,-,c2,c3,c4⟩,-⟩:=cP (aE f.o h1);obtain⟨⟨-,-,d2,d3,d4⟩,-⟩:=cP (aE g.o h1);have z:=aD (aE f.o h1);have A:=aD (aE g.o h1);unfold rd;go_simp);clear n K)
      refine bG rfl (fun S F=> ?_);unfold mv;go_simp
      first
      |(refine(O.o rfl _).mono ?_
        rintro e ee ⟨rfl,b5⟩;have B:=qB aq b5;refine F _ _ (fun _=>B.o) ?_;clear b5)
      |(have B:=aq
        refine F _ _ (fun _=>B.o) ?_)
      clear F S c2 c3 c4 d2 d3 d4 z A;obtain⟨⟨-,-,c2,c3,c4⟩,-⟩:=cP (aE f.o B.o);obtain⟨⟨-,-,d2,d3,d4⟩,-⟩:=cP (aE g.o B.o);have z:=aD (aE f.o B.o);have A:=aD (aE g.o B.o)
      repeat (refine cU rfl (fun K n=> ?_);unfold rd;go_simp;refine n _ (fun cg h1=> ?_) ?_;(· clear n K c2 c3 c4 d2 d3 d4 z A;obtain⟨⟨-,-,c2,c3,c4⟩,-⟩:=cP (aE f.o h1);obtain⟨⟨-,-,d2,d3,d4⟩,-⟩:=cP (aE g.o h1);have z:=aD (aE f.o h1);have A:=aD (aE g.o h1);unfold rd;go_simp);clear n K)
      refine bG rfl (fun S F=> ?_);unfold mv;go_simp;refine(al.o _ B.o).mono ?_;rintro e ef ⟨rfl,b6⟩;have I:=qB B b6;refine F _ _ (fun _=>I.o) ?_;clear F S b6 c2 c3 c4 d2 d3 d4 z A;obtain⟨⟨-,-,c2,c3,c4⟩,-⟩:=cP (aE f.o I.o);obtain⟨⟨-,-,d2,d3,d4⟩,-⟩:=cP (aE g.o I.o);have z:=aD (aE f.o I.o);have A:=aD (aE g.o I.o)
      repeat (refine cU rfl (fun K n=> ?_);unfold rd;go_simp;refine n _ (fun cg h1=> ?_) ?_;(· clear n K c2 c3 c4 d2 d3 d4 z A;obtain⟨⟨-,-,c2,c3,c4⟩,-⟩:=cP (aE f.o h1);obtain⟨⟨-,-,d2,d3,d4⟩,-⟩:=cP (aE g.o h1);have z:=aD (aE f.o h1);have A:=aD (aE g.o h1);unfold rd;go_simp);clear n K)
      refine bG rfl (fun S F=> ?_);unfold mv;go_simp;refine F _ _ (fun h=>absurd h qe) ?_;clear F S;unfold cG;have bl:=qB cp I.o;have dp:=cn.o;clear al O g1 c8 e1 e2 B;by_cases o:C.aDa=lH
      .obtain⟨d1,e1⟩:=fO C.aDa [99,108,111,115,101,100] (o.trans qR);have bt:=aA (aa.o o _ I.o);clear o aa;go_wp2_with fail;refine bt.o.mono ?_;rintro e eg ⟨rfl,b7⟩;have cq:=qB bl b7;clear b7 bt c2 c3 c4 d2 d3 d4 z A;go_wp2;go_roundw
       case rel=>exact⟨j+1,qo,by go_num,cq⟩
       case measure=>simp[intOf];omega
      .obtain⟨d1,e1⟩:=fH C.aDa [99,108,111,115,101,100] (fun e=>o (e.trans qR.symm));clear o aa;go_wp2;go_roundw
       case rel=>exact⟨j+1,qo,by go_num,bl⟩
       case measure=>simp[intOf];omega)
    .have c6:¬((j:Int)<(s.aCQ.length:Int)):=qo;have ch:=aA (ck.o.on HJ.o);have af:=aA (cy.o.trans (aJ HJ.o));have h40:=P.o.1;have hm:m5<=1000 * (k+1):=qF cv.o HM.o HQ.o;go_wp2;go_roundw
     case rel=>exact⟨k+1,m5,t,qo,by go_num,ch,aA hm,ak,af⟩
     case measure=>simp[intOf];omega
  .have c1:¬((k:Int)<(L.length:Int)):=qo;go_wp2_with fail;refine(cm.o _ HE.o.at0.below).mono ?_;rintro e w3 ⟨rfl,T⟩;have Y:=aA (aC HE.o.at0.below T);clear T;go_wp2;go_returns;exact⟨rfl,Y.o⟩
section
namespace topStates
open Go.ChangeShapes Go.WideShapes Go.ChangeAt
set_option maxRecDepth 100000 in
theorem Zi(os:Os)(started:os.Started)(H:Type)(enc:TypeId×Value->H):
 ReturnsInHanded {} checked os 3 .any (fun w args=>(Rows.topStatesSpec.pre enc prog f3 [] false w args/\laidMetH prog MC w)/\sizedMet enc prog f3 (OpenSpec.ofChange Rows.topStatesSpec) false w args)
  (Rows.topStatesSpec.post enc prog f3 false true false false):=by
 refine NU (C:=checked) (X:=fun w _=>laidMetH prog MC w) (fun _ _ _ r h=>h.of_heap r) own started (by kernel_rfl) func3
  (ChangeSpec.witness_shaped (enc:=enc) (C:=checked) (os:=os) (X:=fun w _=>laidMetH prog MC w) false (World.doorLaid prog 400 os) #[.slice none 0 0] 8 rfl (World.shaped_of_RefB (by kernel_rfl) (by kernel_rfl)) (by kernel_rfl) (by kernel_rfl) (by kernel_rfl) (Rd os _)) ?_
 intro W base args i gs before y d b k;have c:∀(j:Nat) t v,f3.params[j]? =some t->args[j]? =some v->Value.okWide prog W .any base t v:=d;have n:=b;obtain⟨p,q,hA0,l,rfl,J,K⟩:=b;have hA:DataW.TrodAll enc prog W 0 (fun _=>true) true f3.params.toList args.toList i p:=hA0;rw[params3] at hA c;obtain⟨v0,L,d0,G,B,q0,I,rfl,rfl,h0,D⟩:=trodAll_cons hA;obtain⟨rfl,rfl,rfl⟩:=trodAll_nil D;obtain rfl:args=#[v0]:=by cases args;simp_all
 obtain⟨rfl,rfl⟩:=trodVars_none l;have f:=h0;have A:∀x∈B,x.block<W.heap.size:=by obtain⟨m,hm⟩:=f;exact DataW.trod_lt m _ _ _ hm
 obtain⟨a0,g,z,rfl,s,E⟩:=Fh underlying22 underlying9 (by kernel_rfl) (c 0 22 v0 rfl rfl) h0;obtain⟨o,h6⟩:=aAp y k;clear hA0 d;refine(NV a0 g z s W E o h6).mono fun e F ⟨he,a⟩=> ?_
 subst he;exact⟨_,rfl,_,_,_,[],_,[],n,trodAll_mk1 (shut_bool underlying4 _),(trodAll_cons_mk (Below.trod Wk (by kernel_rfl) (of_decide_eq_true (by kernel_rfl)) f a A) trodAll_mk0),rfl,a.frame _,fun h=>by cases h⟩
set_option maxRecDepth 100000 in
theorem Zj:joinedFacts checked.prog 3 f3 Rows.topStatesSpec Rows.topStatesRow=true:=by
 unfold joinedFacts;simp only[Bool.and_eq_true]
 repeat' apply And.intro
 all_goals (as_aux_lemma=>kernel_rfl)
set_option maxRecDepth 100000 in
theorem aCG:Rows.TopStatesSaid:=
 OpenClaim.holds_of_wide 3 f3 rfl rfl rfl rfl rfl rfl rfl ⟨rfl,rfl,rfl,rfl,rfl⟩ rfl rfl rfl rfl rfl (by as_aux_lemma=>kernel_rfl) func3 Zj
  (of_decide_eq_true (by as_aux_lemma=>kernel_rfl)) (by unfold Func.isWrapper;first|(rw[iP (by decide +kernel)];kernel_rfl)|(rw[iN (by decide +kernel)];exact⟨rfl,rfl⟩))
  (fun os started H enc _=>Zi os started H enc)
theorem proved:Rows.TopStatesCardSaid:=
 Claim7.holds_tied_plain_at .later [] [.data,.data,.data,.sentinel,.sentinel] true _ true
  aCG (fun _ h=>by cases h) (by as_aux_lemma=>kernel_rfl) (fun _ h=>by cases h) topStates_row_tie rfl ⟨rfl,rfl⟩ (by as_aux_lemma=>kernel_rfl) rfl
  (fun f fn c d=>by
    obtain rfl:f=3:=Option.some.inj ((show prog.funcNamed Rows.topStatesRow.func=some 3 by kernel_rfl).symm.trans c) |>.symm;obtain rfl:fn=f3:=(Option.some.inj (func3.symm.trans d)).symm;exact⟨by as_aux_lemma=>kernel_rfl,fun j t a=>by
     rw[params3] at a;have hm:t∈[22]:=by simpa using Array.mem_of_getElem? a
     have b:([22].all fun u=> !prog.wantsStandIn u)=true:=by kernel_rfl
     exact(show prog.wantsStandIn t=false by simpa using List.all_eq_true.1 b t hm)⟩)
  (by as_aux_lemma=>kernel_rfl)
#print axioms proved
end topStates
end
end Go.Proofs.YtbinmcabjnoliaaGreatDoor
