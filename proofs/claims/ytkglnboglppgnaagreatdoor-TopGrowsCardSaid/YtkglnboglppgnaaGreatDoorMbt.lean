/-
  THE STATEMENT Rows.TopGrowsCardSaid PROVED: for every input bailiff/bailifftop.TopGrows returns true (roles, notices, reviews and versions only grow, whatever is asked; each notice and review has the tick at which it came), and the argument reads afterwards as it read before.
  Conditions: none beyond the row's own (it lists five package-level variables of strconv and math/bits; the card ties them to the program's text).
-/
import Derived.Test.YtkglnboglppgnaaGreatDoorMbs
import Derived.LaidMore
import Derived.Stop.Joined
import Derived.SliceStrings
import Derived.Test.YtkglnboglppgnaaGreatDoorCards
import Derived.Test.YtkglnboglppgnaaGreatDoorTie
import Derived.SevenTiedAt
namespace Go.Proofs.YtkglnboglppgnaaGreatDoor
open Go.RowKit
set_option linter.unusedVariables false
set_option linter.unusedSimpArgs false
set_option maxHeartbeats 16000000
open _root_.Go.Proofs.Tryz
set_option maxRecDepth 20000
section
open Go.ChangeShapes Go.WideShapes Go.ChangeAt Go.Deep
def MF:List (String×DataW Unit):=[("math/bits.deBruijn32tab",Rows.laid_math_bits_deBruijn32tab),("math/bits.deBruijn64tab",Rows.laid_math_bits_deBruijn64tab),("internal/strconv.uint64pow10",Rows.laid_internal_strconv_uint64pow10),("strconv.ErrRange",Rows.laid_strconv_ErrRange),("strconv.ErrSyntax",Rows.laid_strconv_ErrSyntax)]
theorem aAA{W:World}(i:W.ShapedOpen prog)(h:laidMetH prog MF W):Gl W/\6<=W.heap.size:=by
 rw[MakeChecks.laidMetH_plain _ _ _ (by kernel_rfl)] at h;obtain⟨H,⟨g0,t0,q,f0,D,q0,z,A,C,x,⟨g1,t1,r,f1,E,q1,f,B,a,y,⟨g2,t2,s,f2,F,I,g,j,o,d,⟨g3,t3,t,f3,G,J,b,l,p,e,_,_⟩,_⟩,_⟩,_⟩,_⟩:=h;obtain rfl:=Option.some.inj ((show prog.globalNamed "strconv.ErrRange"=some 2 by kernel_rfl).symm.trans b);obtain rfl:=Option.some.inj ((show prog.globalNamed "math/bits.deBruijn64tab"=some 5 by kernel_rfl).symm.trans f);have m:(prog.globals[2]?).map (·.type)=some 143:=by kernel_rfl
 obtain rfl:=Option.some.inj (m.symm.trans l);have n:(prog.globals[3]?).map (·.type)=some 307:=by kernel_rfl
 obtain rfl:=Option.some.inj (WT.symm.trans g);obtain rfl:=Option.some.inj (n.symm.trans j);have h6:6<=W.heap.size:=by
  unfold World.var? at a;rw[show prog.globalNamed "math/bits.deBruijn64tab"=some 5 by kernel_rfl] at a
  rcases Nat.lt_or_ge 5 W.heap.size with h2|h2
  .exact h2
  .simp[Array.getElem?_eq_none h2] at a
 refine⟨⟨?_,(laysM220.s1_3 W i),?_⟩,h6⟩
 .obtain⟨w,u,v,c,_,_⟩:=iface_of_trod underlying143 e;have:=World.var?_cell b p 0;rw[Array.eq_one_of_toList c] at this;exact⟨_,by simpa using this,.inr ⟨u,v,rfl⟩⟩
 .unfold Lib.TabIs;rw[o,<-Lib.cells_of_tab (zs:=Lib.pow10Tab) (k:= .u64) underlying307 underlying60 (by kernel_rfl) (by kernel_rfl) d]
section
variable {H:Type} {enc:TypeId×Value->H} {P:Program} {W:World} {sp:Nat->Bool} {held:Bool}
theorem Fu{r:Reach}{b0:Nat}{t e:TypeId}{v:Value}{d:DataW H}{p:List MemPlace}(n:P.underlying t=some (.slice e))(he:P.underlying e=some .string)(s:P.cellsOf e=1)
 (D:Value.okWide P W r b0 t v)(h:DataW.Trod enc P W 0 sp held t v d p):
 ∃(a:oD) (cap:Nat) (l:List ByteArray),v=.slice a l.length cap/\l.length<=maxLen/\Mv W a l:=by
 obtain⟨a0,len,cap,rfl⟩:=okWide_slice n D;obtain⟨fuel,B⟩:=h
 rcases open_strings n he s B with ⟨f,_⟩|⟨a,J,F,j,f,_,I,hm,E,_,A,C⟩
 .simp[Value.cells] at f;obtain⟨rfl,rfl,rfl⟩:=f;exact⟨none,0,[],rfl,qs,fun k g=>absurd g qs⟩
 .simp[Value.cells] at f;obtain⟨rfl,rfl,rfl⟩:=f;have hlen:len<=j.length:=by rw[E];split<;>omega
  have m:(j.take len).length=len:=by rw[List.length_take];omega
  refine⟨some a,cap,j.take len,by rw[m],qo,fun k g=> ?_⟩;have G:k<len:=qo;have w:Sl W W.heap.size (some a) ((j.take len).map Value.string):=Sl.of_cells fun i x c=>by
   simp only[List.getElem?_map,List.getElem?_take] at c;split at c
   .rw[gE qo] at c;simp only[Option.map_some,Option.some.injEq] at c;subst c;rw[A i qo,List.getD_eq_getElem?_getD,gE qo];rfl
   .simp at c
  obtain⟨b,off,q,y,z⟩:=w (by intro o;have:=congrArg List.length o;simp only[List.length_map,m,List.length_nil] at this;omega);exact⟨b,off,q,y,z k _ (by rw[List.getElem?_map,gE g];rfl),C _ (List.mem_of_mem_take (List.getElem_mem g))⟩
end
theorem OA{H:Type}{enc:TypeId×Value->H}{a:Assume}{C:Checked}{os:Os}{f:FuncId}{fn:Func}{s:ChangeSpec}{conds:List PathCond}{apart fresh handsOn again:Bool}{X:World->Array Value->Prop}
 (k:∀(w w':World) (args:Array Value),w.heap=w'.heap->X w args->X w' args)
 (own:ownKnob C.prog.godebug=none)(started:os.Started)(y:C.prog.inits.idxOf? f=none)(l:C.prog.funcs[f]? =some fn)
 (witness:∃(w:World) (tape:Tape) (i:Input),w.os=os/\(w.forCall tape i).Shaped C.prog/\i.vars=[]/\Input.okWide C.prog (w.forCall tape i) .any w.heap.size f i/\
   ((s.pre enc C.prog fn conds apart (w.forCall tape i).memory i.args/\X (w.forCall tape i).memory i.args)/\sizedMet enc C.prog fn (OpenSpec.ofChange s) apart (w.forCall tape i).memory i.args)/\a.holds C.prog (lone (Frame.enter C.prog f i.args .normal) [] (w.forCall tape i)))
 (d:∀(W:World) (base:Nat) (args:Array Value) (b gs:List (DataW H)) (before:List MemPlace),W.ShapedOpen C.prog->
   (∀(j:Nat) t v,fn.params[j]? =some t->args[j]? =some v->Value.okWide C.prog W .any base t v)->
   DataW.Whole enc C.prog fn.params.toList s.vars apart W args.toList b gs before->X W args->
   Calls C.prog f args W fun e c=>∃v,e=.returned v/\s.post enc C.prog fn apart fresh handsOn again W args v c):
 ReturnsInHanded a C os f .any (fun w args=>(s.pre enc C.prog fn conds apart w args/\X w args)/\sizedMet enc C.prog fn (OpenSpec.ofChange s) apart w args) (s.post enc C.prog fn apart fresh handsOn again):=by
 refine returnsInHanded_of_calls own started y witness ?_;intro w tape i _ p _ n o A;obtain⟨_,_,_,g,m,_,_,_,_,q⟩:=n;have e:g=fn:=Option.some.inj (m.symm.trans l);subst e;obtain⟨⟨⟨b,gs,before,hw,z⟩,x⟩,B⟩:=o;have r:=DataW.Whole.of_heap (w':=w.forCall tape i) (by rfl) hw;refine(d (w.forCall tape i) w.heap.size i.args b gs before p q r (k _ _ _ (by rfl) x)).mono fun e c ⟨v,he,hp⟩=> ?_
 subst he;exact ChangeSpec.post_blind hp
theorem Rq(os:Os)(args:Array Value):laidMetH prog MF ((World.doorLaid prog 400 os).forCall (fun _ _=>0) ⟨#[],args,[]⟩).memory:=
 laidMetH_of_parts3 (fuel:=8) (laidMet_of_run' 8 (by kernel_rfl) (by kernel_rfl)) (by kernel_rfl) (by kernel_rfl)
end
def xR(s t:Sto):Prop:=s.aDd <+:t.aDd/\s.aDg<=t.aDg/\fD s.aC8 t.aC8 t.aDb/\s.aC5.length<=t.aC5.length/\∀r∈t.aC5.drop s.aC5.length,(r.aDb=s.aDb\/r.aDb=t.aDb)/\r.open_=true
theorem Fv(s:Sto):xR s s:=⟨List.prefix_refl _,Int.le_refl _,fD.refl _ _,lR _,fun r h=>by rw[List.drop_length] at h;cases h⟩
theorem ZH(s:Sto)(o:Op):xR s (cQ s o).1:=⟨(xY s o).1,(xY s o).2,RI s o,(LY s o).1,(LY s o).2⟩
theorem Fw(s:Sto)(q:lU):xR s (gV s q).1:=by
 rcases h:kY q with _|o
 .rw[QN h];exact Fv s
 .rw[QO h];exact ZH s o
theorem xR.aDd{s t:Sto}(h:xR s t):s.aDd.length<=t.aDd.length/\t.aDd.take s.aDd.length=s.aDd:=by
 obtain⟨l,a⟩:=h.1;rw[<-a];exact⟨by rw[aL];omega,List.take_left' rfl⟩
theorem xR.aC8{s t:Sto}(h:xR s t):s.aC8.length<=t.aC8.length/\t.aC8.take s.aC8.length=s.aC8/\∀n∈t.aC8.drop s.aC8.length,n.aDb=t.aDb:=by
 obtain⟨l,a,b⟩:=h.2.2.1;rw[a];exact⟨by rw[aL];omega,List.take_left' rfl,fun n h=>b n (by rwa [List.drop_left' rfl] at h)⟩
theorem QBJ{p:Prop}(h:p:=by
 have hk1:¬(k:Int)<(l.length:Int):=qo;obtain rfl:k=l.length:=qo;have HF:=aA (dX (Wx HL.o (fun i hi hj=>HR.o i hi hj hi)));clear HR;go_wp2;go_returns;exact⟨by rw[HF.o];rfl,HB.o⟩):p:=h
theorem QAH{p:Prop}(h:p:=by
 obtain⟨g,hg⟩:=xE (decide (l[k]=m[k]));rw[<-hg] at hne;have HG:=aA hg;have HST:Hid (l[k]=m[k]->∀i (hi:i<l.length) (hj:i<m.length),i<k+1->l[i]=m[i]):=aA (fun e i hi hj h=>by
  rcases Nat.lt_or_ge i k with h1|h1
  .exact HR.o i hi hj h1
  .obtain rfl:i=k:=qo;exact e)
 have HNE:Hid (l[k]≠m[k]->decide (l=m)=false):=aA (fun e=>dF (fun h=>e (by simp only[h])));clear hcl hcm hgd hgd2 hg HR;generalize l[k]=y at *;generalize m[k]=z at *;go_wp2;go_quiet (fail)
 have HB':=aA (fL HB.o ⟨nq,rfl⟩);clear hne
 cases g
 .have HF:=aA (HNE.o (of_decide_eq_false HG.o.symm));go_wp2;go_returns;exact⟨by rw[HF.o];rfl,HB'.o⟩
 .have HF:=aA (HST.o (of_decide_eq_true HG.o.symm));go_wp2;go_roundw
  case rel=>exact⟨k+1,qo,by go_num,HF,HB'⟩
  case measure=>simp[intOf];omega):p:=h
theorem iA.take{w:World}{ok:nP}{a:oD}{xs:List Value}(h:iA w ok a xs)(n:Nat):iA w ok a (xs.take n):=fun g=>by
 obtain⟨b,off,e,d,f⟩:=h (by rintro rfl;exact g qs);refine⟨b,off,e,d,fun i x c=>f i x ?_⟩;rw[List.getElem?_take] at c;split at c
 .exact c
 .cases c
theorem aI.take{α:Type}{R:Rep α}{s:Nat}(F:Firm R s){w:World}{ok:nP}{a:oD}{n c:Nat}{l:List α}(h:aI R w ok (.slice a n c) l){k:Nat}(d:k<=l.length)(b:Nat):aI R w ok (.slice a k b) (l.take k):=by
 obtain⟨i,c2,cs,e,h1,h2,h3⟩:=h;injection e with f _ _;subst f;exact⟨a,b,cs.take (k * s),by rw[List.length_take,Nat.min_eq_left d],h1.take _,(h2.split (fun r x g=>F.len g) k d).1,by rw[List.length_take];omega⟩
theorem iA.drop{w:World}{ok:nP}{a:oD}{xs:List Value}(h:iA w ok a xs)(k:Nat):iA w ok (a.map (·.add k)) (xs.drop k):=fun g=>by
 obtain⟨b,off,e,d,f⟩:=h (by rintro rfl;exact g qs);refine⟨b,off+k,by rw[e];simp[Addr.add],d,fun i x c=> ?_⟩;rw[List.getElem?_drop] at c;rw[Nat.add_assoc];exact f _ _ c
theorem aI.drop{α:Type}{R:Rep α}{s:Nat}(F:Firm R s){w:World}{ok:nP}{a:oD}{n c:Nat}{l:List α}(h:aI R w ok (.slice a n c) l){k:Nat}(i:k<=l.length)(m:l.length<=c)(d:Nat):aI R w ok (.slice (if c=k then a else a.map (·.add (k * s))) (l.length - k) d) (l.drop k):=by
 obtain⟨j,c2,cs,e,h1,h2,h3⟩:=h;injection e with g _ _;subst g;have f:=(h2.split (fun r x b=>F.len b) k i).2;refine⟨_,d,cs.drop (k * s),by rw[List.length_drop],?_,f,by rw[List.length_drop];omega⟩;split
 .rename_i o;have h4:=f.len (fun r x b=>F.len b);rw[show (l.drop k).length=0 by rw[List.length_drop];omega,Nat.zero_mul] at h4;rw[List.eq_nil_of_length_eq_zero h4];exact iA.nil
 .exact h1.drop _
theorem MG{P:Program}{t e:TypeId}{a:oD}{n c k s:Nat}(d:P.underlying t=some (.slice e))(he:P.elem t=e)(b:∀w,(sizeOf e).run P w=.ok s w)(f:k<=n)(w:World):(Instr.slice t (.slice a n c) (some (.int .i64 (k:Int))) none none).run P w=.ok (.slice (if c=k then a else a.map (·.add (k * s))) (n - k) (c - k)) w:=by
 rw[run_slice_l w t a n c (by rw[he];exact d) .i64 k qo qo,he,b];simp[Result.andThen,sliced]
theorem Wx{α:Type}{l m:List α}(h:l.length=m.length)(a:∀i (b:i<l.length) (hj:i<m.length),l[i]=m[i]):l=m:=List.ext_getElem h a
theorem Mw(x y:uT)(w:World):Sem.run prog (binOp .neq 45 (.agg #[.string x.1,.string x.2]) (.agg #[.string y.1,.string y.2])) w=.ok (.bool (!decide (x=y))) w:=by
 obtain⟨b,c⟩:=x;obtain⟨d,e⟩:=y;have u3:=underlying3;have a3:=isAgg3;have z3:=sizeOf3;have u9:=underlying9;have a9:=isAgg9;have z9:=sizeOf9;have a:prog.underlying 45=some (.struct (prog.fieldsOf 45)):=by kernel_rfl
 have hp:prog.stoodInHeld 45=false:=by kernel_rfl
 rw[run_neq_struct,show (10000:Nat)=9999+1 from rfl,run_equalIn_agg w 9999 45 _ _ a hp];simp only[Program.fieldsOf,underlying45];go_simp;by_cases h0:b=d<;>by_cases h1:c=e<;>simp[h0,h1,vZ]
theorem ZI{ok ok':nP}(v u:Value)(l m:List uT)(w:World)(h:aI oV w ok v l)(f:aI oV w ok' u m):Calls prog 8 #[v,u] w (aP (.bool (decide (l=m))) w):=by
 obtain⟨a,c,rfl,_⟩:=h.slice;obtain⟨b,d,rfl,_⟩:=f.slice;have j:=aA h;have n:=aA f;clear h f;unfold aP;by_cases hlen:l.length=m.length
 .have o:((l.length:Int) != (m.length:Int))=false:=by rw[hlen];simp
  have HL:=aA hlen;clear hlen;go_enter func8,ntmps8;go_wp2;go_loopw [5] (fun i wr=>∃k:Nat,k<=l.length/\i=.int .i64 k/\Hid (∀i (hi:i<l.length) (hj:i<m.length),i<k->l[i]=m[i])/\Hid (Below w.heap.size w wr)) (fun i _=>l.length - (intOf i).toNat)
  case atStart=>exact⟨0,qo,rfl,aA (fun i _ _ h=>absurd h qo),aA (Below.refl _ _)⟩
  case round=>
   obtain⟨k,B,rfl,HR,HB⟩:=hrel;by_cases p:k<l.length
   .have q:k<m.length:=qA HL.o;have hk1:(k:Int)<(l.length:Int):=qo;have C:(k:Int)<(m.length:Int):=qo;obtain⟨b1,off,r,rfl,_,x,⟨rfl,hgd⟩,hcl⟩:=aI.at cM (j.o.on cM HB.o) p qe;obtain⟨b2,D,E,rfl,_,A,⟨rfl,hgd2⟩,hcm⟩:=aI.at cM (n.o.on cM HB.o) q qe;have s:=hcl 0 _ rfl;have F:=hcl 1 _ rfl;have t:=hcm 0 _ rfl;have G:=hcm 1 _ rfl;rw[Nat.add_zero] at s t;have hne:=Mw l[k] m[k];exact QAH
   .exact QBJ
 .have o:((l.length:Int) != (m.length:Int))=true:=by simp;omega
  have HF:=aA (dF (show ¬l=m from fun h=>hlen (by rw[h])));clear hlen;go_enter func8,ntmps8;go_wp2;go_returns;exact⟨by rw[HF.o];rfl,Below.refl _ _⟩
theorem Mx(x y:uN)(w:World):Sem.run prog (binOp .neq 48 (.agg #[.int .i64 x.aDb,.string x.aDa,.string x.arg]) (.agg #[.int .i64 y.aDb,.string y.aDa,.string y.arg])) w=.ok (.bool (!decide (x=y))) w:=by
 obtain⟨b,c,d⟩:=x;obtain⟨e,f,g⟩:=y;have u3:=underlying3;have a3:=isAgg3;have z3:=sizeOf3;have u9:=underlying9;have a9:=isAgg9;have z9:=sizeOf9;have a:prog.underlying 48=some (.struct (prog.fieldsOf 48)):=by kernel_rfl
 have hp:prog.stoodInHeld 48=false:=by kernel_rfl
 rw[run_neq_struct,show (10000:Nat)=9999+1 from rfl,run_equalIn_agg w 9999 48 _ _ a hp];simp only[Program.fieldsOf,underlying48];go_simp;by_cases h0:b=e<;>by_cases h1:c=f<;>by_cases h2:d=g<;>simp[h0,h1,h2,vZ]
theorem ZJ{ok ok':nP}(v u:Value)(l m:List uN)(w:World)(h:aI rW w ok v l)(f:aI rW w ok' u m):Calls prog 9 #[v,u] w (aP (.bool (decide (l=m))) w):=by
 obtain⟨a,c,rfl,_⟩:=h.slice;obtain⟨b,d,rfl,_⟩:=f.slice;have j:=aA h;have n:=aA f;clear h f;unfold aP;by_cases hlen:l.length=m.length
 .have o:((l.length:Int) != (m.length:Int))=false:=by rw[hlen];simp
  have HL:=aA hlen;clear hlen;go_enter func9,ntmps9;go_wp2;go_loopw [5] (fun i wr=>∃k:Nat,k<=l.length/\i=.int .i64 k/\Hid (∀i (hi:i<l.length) (hj:i<m.length),i<k->l[i]=m[i])/\Hid (Below w.heap.size w wr)) (fun i _=>l.length - (intOf i).toNat)
  case atStart=>exact⟨0,qo,rfl,aA (fun i _ _ h=>absurd h qo),aA (Below.refl _ _)⟩
  case round=>
   obtain⟨k,B,rfl,HR,HB⟩:=hrel;by_cases p:k<l.length
   .have q:k<m.length:=qA HL.o;have hk1:(k:Int)<(l.length:Int):=qo;have C:(k:Int)<(m.length:Int):=qo;obtain⟨b1,off,r,rfl,_,x,⟨rfl,hgd⟩,hcl⟩:=aI.at cU (j.o.on cU HB.o) p qe;obtain⟨b2,D,E,rfl,_,A,⟨rfl,hgd2⟩,hcm⟩:=aI.at cU (n.o.on cU HB.o) q qe;obtain⟨s,F,G⟩:=cR3 hcl;obtain⟨t,H,I⟩:=cR3 hcm;rw[Nat.add_zero] at s t;have hne:=Mx l[k] m[k];exact QAH
   .exact QBJ
 .have o:((l.length:Int) != (m.length:Int))=true:=by simp;omega
  have HF:=aA (dF (show ¬l=m from fun h=>hlen (by rw[h])));clear hlen;go_enter func9,ntmps9;go_wp2;go_returns;exact⟨by rw[HF.o];rfl,Below.refl _ _⟩
theorem QCN{p:Prop}(h:p:=by
 clear he hop;go_wp2;go_roundw
 case rel=>exact⟨i+1,qo,by go_num,HJ10⟩
 case measure=>simp[intOf];omega):p:=h
theorem RV(a:oD)(c:Nat)(l:List ByteArray)(hl:l.length<=maxLen)(w:World)(hs:Mv w a l)(hg:Gl w)(h6:6<=w.heap.size):Calls prog 3 #[.slice a l.length c] w fun e w'=>e=.returned (.bool true)/\Below w.heap.size w w':=by
 have HF:=aA (XF 200000 qe w hg h6);have cj:=aA (fun w' (d:Below w.heap.size w w')=>Mu w' (hg.on d) (lT h6 d.size));obtain⟨HG,H6,HS,cp⟩:=dJ hg h6 hs hl;clear hg h6 hs hl;go_enter func3,ntmps3;go_wp2_with fail;refine HF.o.mono ?_;rintro e w1 ⟨E,D,rfl,H⟩;have bh:=aA H;have a7:=H.below;have bm:=aA (Mt (ok:=fun _=>True) a c l cp.o 40 qe w1 (fun k hk=>by
  obtain⟨b,off,h1,h2,h3,h4⟩:=HS.o k hk;exact⟨b,off,h1,lL h2 a7.size,(a7.cell (p:=⟨b,off+k,none⟩) h2).trans h3,h4⟩))
 clear H a7 HF;go_wp2_with fail;refine bm.o.mono ?_;rintro e w2 ⟨v,rfl,hv,d⟩;obtain⟨L,hL⟩:=xE (zF l 40);rw[<-hL] at hv;have Y:Hid (L.length<=40/\∀x∈L,x.size<=600):=aA (by
  rw[hL];unfold zF;refine⟨by rw[List.length_map,List.length_take];omega,fun x hx=> ?_⟩;obtain⟨y,_,rfl⟩:=List.mem_map.1 hx;exact Ms y)
 obtain⟨la,lc,rfl,-⟩:=hv.slice;obtain⟨ch,cq,dc⟩:=bA (bh.o.one.grow d) (aI.inb vQ hv) d;clear d hv hL bh bm;go_wp2;go_loopw [22] (fun i wr=>∃(k m:Nat) (s:Sto),k<=L.length/\i=.int .i64 k/\Hid (uJ w (fun b=>w1.heap.size<=b/\b<w2.heap.size) E D 200000 m k s wr)/\Hid (m<=1000 * k)/\Hid (mJ k s)/\Hid (aO (fun b=>w1.heap.size<=b/\b<w2.heap.size) w2 wr)) (fun i _=>L.length - (intOf i).toNat)
 case atStart=>exact⟨0,0,mT,qo,rfl,aA (ch.o.sub fun b d=> .inr d),aA qo,aA WL,aA (aK (Below.refl _ _))⟩
 case round=>
  obtain⟨k,m,s,hk,rfl,HE,HM,HB,az⟩:=hrel;by_cases b7:k<L.length
  .have cr:=aA (aI.aDc vQ cq.o ((az.o).mono fun b _ d=>by exact⟨d.1,d.2⟩));obtain⟨b,off,r,rfl,dj,dk,⟨rfl,b2⟩,hc⟩:=aI.at vQ cr.o b7 qe;obtain⟨q,hq⟩:=xE (L[k]);rw[<-hq] at b2 hc;have c6:=hc 0 _ rfl;rw[Nat.mul_one,Nat.add_zero] at c6;have b9:q.size<=600:=by rw[hq];exact Y.o.2 _ (List.getElem_mem b7)
   have HQ:=aA b9;have bq:=aA (QT HE.o);have cz:(k:Int)<(L.length:Int):=qo;clear hc b2 hq b9;go_wp2_with fail;refine bq.o.mono ?_;rintro e w3 ⟨K,vc,vr,vn,vo,vt,vu,vk,vb,rfl,S,H,aa⟩;obtain⟨ca,cc,ra,rc,na,nc,oa,oc,ta,tc,ua,uc,ka,kc,ba,bc,rfl,-,rfl,-,rfl,-,rfl,-,rfl,-,rfl,-,rfl,-,rfl,-⟩:=S.sl;obtain⟨bu,be,ae⟩:=bA S H aa;unfold aX;clear S H aa bq;go_upto_region 8 with (refine eK rfl _ (.tmp 7) (.tmp 27) rfl w3.heap.size _ rfl rfl _ _ (aM _ _ _ rfl) (by kernel_rfl) rfl (by simp[Value.oneCell']) ?_;intro w4 av br)
   have af:=aA (pK (lR _) br.o);have bf:=aA (be.o.grow af.o);have bz:=aA (aE av.o);have bl:=aA (Rp HG.o H6.o bf.o q (qA HQ.o) HB.o (qA Y.o.1) (qA Y.o.1) (qF HQ.o HM.o Y.o.1) qe);clear br;go_wp2_with fail;refine bl.o.mono ?_;rintro e w5 ⟨rfl,m5,hA5,a1,-,b8,-⟩;obtain⟨bn,ct,ax⟩:=bA (aG av.o a1 (.inr ⟨lR _,bz.o⟩)) b8 a1;obtain⟨t,ht⟩:=xE ((gV s q.data.toList).1);obtain⟨an,a6⟩:=xE ((gV s q.data.toList).2);rw[<-ht] at hA5;rw[<-a6];obtain⟨cf,HT,bs⟩:=bA hA5 (And.intro ht a6) (QT hA5);clear hA5 a1 b8 ht a6 bl av;go_wp2_with fail;refine bs.o.mono ?_;rintro e w6 ⟨K6,dv,tr,tn,to_,tt,tu,tk,tb,rfl,S,H,a8⟩;obtain⟨dh,di,bd,T,ak,I,c7,al,dt,du,dw,dx,dp,dq,de,df,rfl,-,rfl,-,rfl,-,rfl,-,rfl,-,rfl,-,rfl,-,rfl,-⟩:=S.sl;obtain⟨N,bg,aq,bo⟩:=dJ S H a8 (aF bn.o a8);unfold aX;clear S H a8 bs bn;go_upto_region 10 with (refine eK rfl _ (.tmp 8) (.tmp 32) rfl w6.heap.size _ rfl rfl _ _ (aM _ _ _ rfl) (by kernel_rfl) rfl (by simp[Value.oneCell']) ?_;intro J bp bt)
   have V:=aA (pK (lR _) bt.o);have bj:Hid (mJ (k+1) t):=aA (by rw[HT.o.1];exact HB.o.line _);have X:Hid (xR s t):=aA (by rw[HT.o.1];exact Fw s _);have cu:Hid (aO (fun b=>w1.heap.size<=b/\b<w2.heap.size) w2 J):=aA (az.o.trans ((aK ae.o).trans ((aK af.o).trans ((ax.o.mono fun b _ d=> .inl (.inl d)).trans ((aK aq.o).trans (aK V.o))))));have cg:=aA ((bg.o.sub (P':=fun b=>w1.heap.size<=b/\b<w2.heap.size) fun b d=> .inl (.inl (.inl d))).on V.o);have bw:=aA ((((bu.o.on af.o).aDc (ax.o.mono fun b _ d=> .inl (.inr d))).on aq.o).on V.o);have ah:=aA (N.o.on V.o);have g:=qK bo V.o;have f:=bp;have HC:Hid (t.aDd.length<=al/\t.aC8.length<=I/\t.aC5.length<=T):=aA ⟨N.o.aDR.2.2 _ _ _ rfl,N.o.aDR.2.1 _ _ _ rfl,N.o.aDR.1 _ _ _ rfl⟩;have bk:Hid (t.aDd.length<=1000000/\t.aC8.length<=1000000/\t.aC5.length<=1000000):=aA ⟨N.o.aDd.slice.choose_spec.choose_spec.2,N.o.aC8.slice.choose_spec.choose_spec.2,N.o.aC5.slice.choose_spec.choose_spec.2⟩;have ag:=aA X.o.aDd;have Z:=aA X.o.aC8;have ar:Hid (∀w',Below J.heap.size J w'->Calls prog 8 #[.slice c7 s.aDd.length al,.slice oa s.aDd.length oc] w' (aP (.bool true) w')):=aA (fun w' d=>by
    have:=ZI _ _ _ _ w' (aI.take cM (ah.o.aDd.on cM d) ag.o.1 al) (bw.o.aDd.on cM d);rwa [dX ag.o.2] at this)
   have au:Hid (∀w',Below J.heap.size J w'->Calls prog 9 #[.slice ak s.aC8.length I,.slice na s.aC8.length nc] w' (aP (.bool true) w')):=aA (fun w' d=>by
    have:=ZJ _ _ _ _ w' (aI.take cU (ah.o.aC8.on cU d) Z.o.1 I) (bw.o.aC8.on cU d);rwa [dX Z.o.2.1] at this)
   unfold aP at ar au;have n1:=ag.o.1;have n2:=Z.o.1;have n3:=X.o.2.2.2.1;have n4:=X.o.2.1;have k1:=HC.o.1;have k2:=HC.o.2.1;have k3:=HC.o.2.2;have g1:decide (t.aDd.length<s.aDd.length)=false:=dF qo;have g2:decide (t.aC8.length<s.aC8.length)=false:=dF qo;have g3:decide (t.aC5.length<s.aC5.length)=false:=dF qo;have g4:decide (t.aDg<s.aDg)=false:=dF qo;obtain⟨⟨t0,-,t2,t3,t4,-,-,-,-,-,-,-,t12⟩,-⟩:=bK f.o;obtain⟨⟨o,-,s2,F,G,-,-,-,-,-,-,-,c8⟩,-⟩:=bK g.o;have n:=aE f.o;have zs:=aE g.o;clear bo bp bu N ae af ax aq V az be bf cf bg HT bt bz;have k4:s.aDd.length<=al:=qo;have k5:s.aC8.length<=I:=qo;go_upto_region 12 with (fail)
   clear g1 g2 g3 g4 n4 t12 c8;have HD:=aA ((Below.refl J.heap.size J).drew);refine cB 21 [(0,false),(1,false),(2,false),(3,false),(4,false),(5,false),(6,false),(7,false),(8,true),(9,false),(10,false),(11,false),(12,false),(13,false),(14,false),(15,false),(16,false),(17,false),(18,false),(19,true),(20,false)] [(21,true)] (fun w'=>Below J.heap.size J w') (by decide +kernel) (by decide +kernel) HD.o ?_;simp only[List.cons_append,List.nil_append]
   repeat (refine dA rfl (fun K C=> ?_);unfold rd;go_simp;refine C _ (fun cb h1=> ?_) ?_;(· clear C K t0 t2 t3 t4 o s2 F G n zs;obtain⟨⟨t0,-,t2,t3,t4,-,-,-,-,-,-,-,-⟩,-⟩:=bK (aF f.o h1);obtain⟨⟨o,-,s2,F,G,-,-,-,-,-,-,-,-⟩,-⟩:=bK (aF g.o h1);have n:=aE (aF f.o h1);have zs:=aE (aF g.o h1);unfold rd;go_simp);clear C K)
   refine bI rfl (fun K1 O=> ?_);unfold mv;go_simp;refine(ar.o _ HD.o).mono ?_;rintro e w8 ⟨rfl,b0⟩;have M:=qB HD b0;refine O _ _ (fun _=>M.o) ?_;clear O K1 b0 t0 t2 t3 t4 o s2 F G n zs;obtain⟨⟨t0,-,t2,t3,t4,-,-,-,-,-,-,-,-⟩,-⟩:=bK (aF f.o M.o);obtain⟨⟨o,-,s2,F,G,-,-,-,-,-,-,-,-⟩,-⟩:=bK (aF g.o M.o);have n:=aE (aF f.o M.o);have zs:=aE (aF g.o M.o)
   repeat (refine dA rfl (fun K C=> ?_);unfold rd;go_simp;refine C _ (fun cb h1=> ?_) ?_;(· clear C K t0 t2 t3 t4 o s2 F G n zs;obtain⟨⟨t0,-,t2,t3,t4,-,-,-,-,-,-,-,-⟩,-⟩:=bK (aF f.o h1);obtain⟨⟨o,-,s2,F,G,-,-,-,-,-,-,-,-⟩,-⟩:=bK (aF g.o h1);have n:=aE (aF f.o h1);have zs:=aE (aF g.o h1);unfold rd;go_simp);clear C K)
   refine bI rfl (fun K1 O=> ?_);unfold mv;go_simp;refine(au.o _ M.o).mono ?_;rintro e W ⟨rfl,b1⟩;have z:=qB M b1;refine O _ _ (fun _=>z.o) ?_;clear O K1 b1 t0 t2 t3 t4 o s2 F G n zs;obtain⟨⟨t0,-,t2,t3,t4,-,-,-,-,-,-,-,-⟩,-⟩:=bK (aF f.o z.o);obtain⟨⟨o,-,s2,F,G,-,-,-,-,-,-,-,-⟩,-⟩:=bK (aF g.o z.o);have n:=aE (aF f.o z.o);have zs:=aE (aF g.o z.o)
   repeat (refine dA rfl (fun K C=> ?_);unfold rd;go_simp;refine C _ (fun cb h1=> ?_) ?_;(· clear C K t0 t2 t3 t4 o s2 F G n zs;obtain⟨⟨t0,-,t2,t3,t4,-,-,-,-,-,-,-,-⟩,-⟩:=bK (aF f.o h1);obtain⟨⟨o,-,s2,F,G,-,-,-,-,-,-,-,-⟩,-⟩:=bK (aF g.o h1);have n:=aE (aF f.o h1);have zs:=aE (aF g.o h1);unfold rd;go_simp);clear C K)
   refine bI rfl (fun K1 O=> ?_);unfold mv;go_simp;refine O _ _ (fun h=>absurd h qe) ?_;clear O K1;unfold cH;have aw:Hid (t.aC5.length<=T/\s.aC5.length<=t.aC5.length):=aA ⟨k3,n3⟩;have N1:=aA n2;have dd:=bj;obtain⟨A,ai⟩:=xE (t.aC8.drop s.aC8.length);have R:A.length=t.aC8.length - s.aC8.length:=by rw[ai,List.length_drop]
   obtain⟨aD,hD⟩:=xE ((if I=s.aC8.length then ak else ak.map (·.add (s.aC8.length * 3))));have cm:Hid (∀x∈A,x.aDb=t.aDb):=aA (by rw[ai];exact Z.o.2.2);have cn:Hid (aI rW W K6 (.slice aD A.length (I - s.aC8.length)) A):=aA (by
    have:=aI.drop cU (ah.o.aC8.on cU z.o) n2 k2 (I - s.aC8.length);rw[<-hD,<-ai,<-R] at this;exact this)
   have ck:Hid (A.length<=1000000):=aA (qA bk.o.2.1);have ay:∀w,(Instr.slice 30 (.slice ak t.aC8.length I) (some (.int .i64 (s.aC8.length:Int))) none none).run prog w=.ok (.slice aD A.length (I - s.aC8.length)) w:=fun w=>by
    rw[hD,R];exact MG underlying30 (by kernel_rfl) sizeOf48 n2 w
   clear k1 k2 k3 k4 k5 n1 n2 n3 ar au M HD ai hD R Z ag;go_wp2;go_loopw [94] (fun i wr=>∃j:Nat,j<=A.length/\i=.int .i64 j/\Hid (Below W.heap.size W wr)) (fun i _=>A.length - (intOf i).toNat)
   case atStart=>exact⟨0,qo,rfl,aA (Below.refl _ _)⟩
   case round=>
    obtain⟨j,hj,rfl,HJ⟩:=hrel;clear ay t0 t2 t3 t4 o s2 F G n zs;by_cases b6:j<A.length
    .have c1:(j:Int)<(A.length:Int):=qo;obtain⟨b3,dr,r3,rfl,_,dm,⟨rfl,bb⟩,ab⟩:=aI.at cU (aI.on cU cn.o HJ.o) b6 qe;obtain⟨x0,x1,x2⟩:=cR3 ab;rw[Nat.add_zero] at x0;have f1:(A[j].aDb != t.aDb)=false:=by rw[cm.o _ (List.getElem_mem b6)];simp
     clear ab bb;generalize A[j]=y at *;go_upto_region 17 with (refine eK rfl _ (.tmp 10) (.tmp 97) rfl wr.heap.size _ rfl rfl _ _ (aM _ _ _ rfl) (by kernel_rfl) rfl (by simp[Value.oneCell']) ?_;intro da P Q)
     have ao:=aA (pK (lR _) Q.o);have HJ10:=qB HJ ao.o;obtain⟨⟨y0,-,-⟩,-⟩:=cF P.o;have zy:=aE P.o;obtain⟨⟨t0,-,-,-,-,-,-,-,-,-,-,-,-⟩,-⟩:=bK (aF f.o (aC z.o HJ10.o));have n:=aE (aF f.o (aC z.o HJ10.o));clear x0 x1 x2 Q P;have cx:=ck.o;go_wp2;go_roundw
     case rel=>exact⟨j+1,qo,by go_num,HJ10⟩
     case measure=>simp[intOf];omega
    .have c1:¬((j:Int)<(A.length:Int)):=qo;have ad:=qB z HJ.o;obtain⟨⟨t0,-,t2,-,-,-,-,-,-,-,-,-,-⟩,-⟩:=bK (aF f.o ad.o);obtain⟨⟨o,-,s2,-,-,-,-,-,-,-,-,-,-⟩,-⟩:=bK (aF g.o ad.o);have n:=aE (aF f.o ad.o);have zs:=aE (aF g.o ad.o);obtain⟨B,aj⟩:=xE (t.aC5.drop s.aC5.length);have R:B.length=t.aC5.length - s.aC5.length:=by rw[aj,List.length_drop]
     obtain⟨aV,hV⟩:=xE ((if T=s.aC5.length then bd else bd.map (·.add (s.aC5.length * 7))));have cv:Hid (∀x∈B,(x.aDb=s.aDb\/x.aDb=t.aDb)/\x.open_=true):=aA (by rw[aj];exact X.o.2.2.2.2);have cw:Hid (aI rV W K6 (.slice aV B.length (T - s.aC5.length)) B):=aA (by
      have:=aI.drop cR (ah.o.aC5.on cR z.o) aw.o.2 aw.o.1 (T - s.aC5.length);rw[<-hV,<-aj,<-R] at this;exact this)
     have cl:Hid (B.length<=1000000):=aA (qA bk.o.2.2);have ay:∀w,(Instr.slice 29 (.slice bd t.aC5.length T) (some (.int .i64 (s.aC5.length:Int))) none none).run prog w=.ok (.slice aV B.length (T - s.aC5.length)) w:=fun w=>by
      rw[hV,R];exact MG underlying29 (by kernel_rfl) sizeOf50 aw.o.2 w
     clear aj hV R;go_wp2;go_loopw [111] (fun i db=>∃j:Nat,j<=B.length/\i=.int .i64 j/\Hid (Below W.heap.size W db)) (fun i _=>B.length - (intOf i).toNat)
     case atStart=>exact⟨0,qo,rfl,HJ⟩
     case round=>
      obtain⟨i,hi,rfl,HI⟩:=hrel;clear ay t0 t2 o s2 n zs;have U:=qB z HI.o;obtain⟨⟨t0,-,-,-,-,-,-,-,-,-,-,-,-⟩,-⟩:=bK (aF f.o U.o);obtain⟨⟨o,-,-,-,-,-,-,-,-,-,-,-,-⟩,-⟩:=bK (aF g.o U.o);have n:=aE (aF f.o U.o);have zs:=aE (aF g.o U.o);by_cases b5:i<B.length
      .have cy:(i:Int)<(B.length:Int):=qo;obtain⟨b4,ds,r4,rfl,_,dn,⟨rfl,bb⟩,ab⟩:=aI.at cR (aI.on cR cw.o HI.o) b5 qe;obtain⟨x0,x1,x2,x3,x4,x5,x6⟩:=BO ab;rw[Nat.add_zero] at x0;have bx:=aA (cv.o _ (List.getElem_mem b5));have cx:=cl.o;clear ab bb t0 o n zs;generalize B[i]=y at *;go_upto_region 23 with (refine eK rfl _ (.tmp 12) (.tmp 114) rfl wr.heap.size _ rfl rfl _ _ (aM _ _ _ rfl) (by kernel_rfl) rfl (by simp[Value.oneCell']) ?_;intro da P Q)
       have ao:=aA (pK (lR _) Q.o);have HJ10:=qB HI ao.o;obtain⟨⟨-,y1,-,-,-,-,y6⟩,-⟩:=bL P.o;have zy:=aE P.o;obtain⟨⟨t0,-,-,-,-,-,-,-,-,-,-,-,-⟩,-⟩:=bK (aF f.o (aC z.o HJ10.o));have n:=aE (aF f.o (aC z.o HJ10.o));obtain⟨⟨o,-,-,-,-,-,-,-,-,-,-,-,-⟩,-⟩:=bK (aF g.o (aC z.o HJ10.o));have zs:=aE (aF g.o (aC z.o HJ10.o));clear x0 x1 x2 x3 x4 x5 x6 Q P;have hop:=bx.o.2;rw[hop] at y6;by_cases he:y.aDb=s.aDb
       .have f1:(y.aDb != s.aDb)=false:=by rw[he];simp
        exact QCN
       .have f1:(y.aDb != s.aDb)=true:=by simpa using he
        have f2:(y.aDb != t.aDb)=false:=by rw[bx.o.1.resolve_left he];simp
        exact QCN
      .have cy:¬((i:Int)<(B.length:Int)):=qo;have cd:=aA (cg.o.on U.o);have Q:=aA (cu.o.trans (aK U.o));have h40:=Y.o.1;have hm:m5<=1000 * (k+1):=qF ct.o HM.o HQ.o;go_wp2;go_roundw
       case rel=>exact⟨k+1,m5,t,qo,by go_num,cd,aA hm,bj,Q⟩
       case measure=>simp[intOf];omega
  .have cz:¬((k:Int)<(L.length:Int)):=qo;go_wp2_with fail;refine(cj.o _ HE.o.at0.below).mono ?_;rintro e w3 ⟨rfl,aa⟩;have ae:=aA (aC HE.o.at0.below aa);clear aa;go_wp2;go_returns;exact⟨rfl,ae.o⟩
section
namespace topGrows
open Go.ChangeShapes Go.WideShapes Go.ChangeAt
set_option maxRecDepth 100000 in
theorem Zt(os:Os)(started:os.Started)(H:Type)(enc:TypeId×Value->H):
 ReturnsInHanded {} checked os 3 .any (fun w args=>(Rows.topGrowsSpec.pre enc prog f3 [] false w args/\laidMetH prog MF w)/\sizedMet enc prog f3 (OpenSpec.ofChange Rows.topGrowsSpec) false w args)
  (Rows.topGrowsSpec.post enc prog f3 false true false false):=by
 refine OA (C:=checked) (X:=fun w _=>laidMetH prog MF w) (fun _ _ _ r h=>h.of_heap r) own started (by kernel_rfl) func3
  (ChangeSpec.witness_shaped (enc:=enc) (C:=checked) (os:=os) (X:=fun w _=>laidMetH prog MF w) false (World.doorLaid prog 400 os) #[.slice none 0 0] 8 rfl (World.shaped_of_RefB (by kernel_rfl) (by kernel_rfl)) (by kernel_rfl) (by kernel_rfl) (by kernel_rfl) (Rq os _)) ?_
 intro W base args i gs before y d b k;have c:∀(j:Nat) t v,f3.params[j]? =some t->args[j]? =some v->Value.okWide prog W .any base t v:=d;have n:=b;obtain⟨p,q,hA0,l,rfl,J,K⟩:=b;have hA:DataW.TrodAll enc prog W 0 (fun _=>true) true f3.params.toList args.toList i p:=hA0;rw[params3] at hA c;obtain⟨v0,L,d0,G,B,q0,I,rfl,rfl,h0,D⟩:=trodAll_cons hA;obtain⟨rfl,rfl,rfl⟩:=trodAll_nil D;obtain rfl:args=#[v0]:=by cases args;simp_all
 obtain⟨rfl,rfl⟩:=trodVars_none l;have f:=h0;have A:∀x∈B,x.block<W.heap.size:=by obtain⟨m,hm⟩:=f;exact DataW.trod_lt m _ _ _ hm
 obtain⟨a0,g,z,rfl,s,E⟩:=Fu underlying22 underlying9 (by kernel_rfl) (c 0 22 v0 rfl rfl) h0;obtain⟨o,h6⟩:=aAA y k;clear hA0 d;refine(RV a0 g z s W E o h6).mono fun e F ⟨he,a⟩=> ?_
 subst he;exact⟨_,rfl,_,_,_,[],_,[],n,trodAll_mk1 (shut_bool underlying4 _),(trodAll_cons_mk (Below.trod Ww (by kernel_rfl) (of_decide_eq_true (by kernel_rfl)) f a A) trodAll_mk0),rfl,a.frame _,fun h=>by cases h⟩
set_option maxRecDepth 100000 in
theorem Zu:joinedFacts checked.prog 3 f3 Rows.topGrowsSpec Rows.topGrowsRow=true:=by
 unfold joinedFacts;simp only[Bool.and_eq_true]
 repeat' apply And.intro
 all_goals (as_aux_lemma=>kernel_rfl)
set_option maxRecDepth 100000 in
theorem aCS:Rows.TopGrowsSaid:=
 OpenClaim.holds_of_wide 3 f3 rfl rfl rfl rfl rfl rfl rfl ⟨rfl,rfl,rfl,rfl,rfl⟩ rfl rfl rfl rfl rfl (by as_aux_lemma=>kernel_rfl) func3 Zu
  (of_decide_eq_true (by as_aux_lemma=>kernel_rfl)) (by unfold Func.isWrapper;first|(rw[iP (by decide +kernel)];kernel_rfl)|(rw[iN (by decide +kernel)];exact⟨rfl,rfl⟩))
  (fun os started H enc _=>Zt os started H enc)
theorem proved:Rows.TopGrowsCardSaid:=
 Claim7.holds_tied_plain_at .later [] [.data,.data,.data,.sentinel,.sentinel] true _ true
  aCS (fun _ h=>by cases h) (by as_aux_lemma=>kernel_rfl) (fun _ h=>by cases h) topGrows_row_tie rfl ⟨rfl,rfl⟩ (by as_aux_lemma=>kernel_rfl) rfl
  (fun f fn c d=>by
    obtain rfl:f=3:=Option.some.inj ((show prog.funcNamed Rows.topGrowsRow.func=some 3 by kernel_rfl).symm.trans c) |>.symm;obtain rfl:fn=f3:=(Option.some.inj (func3.symm.trans d)).symm;exact⟨by as_aux_lemma=>kernel_rfl,fun j t a=>by
     rw[params3] at a;have hm:t∈[22]:=by simpa using Array.mem_of_getElem? a
     have b:([22].all fun u=> !prog.wantsStandIn u)=true:=by kernel_rfl
     exact(show prog.wantsStandIn t=false by simpa using List.all_eq_true.1 b t hm)⟩)
  (by as_aux_lemma=>kernel_rfl)
#print axioms proved
end topGrows
end
end Go.Proofs.YtkglnboglppgnaaGreatDoor
