/- Lemmas. -/
import Derived.Lib.FrozenHead2
import Derived.Lib.OthersKept
import Derived.Test.YthcgdgkpgdjahaaGreatDoorMbp
namespace Go.Proofs.YthcgdgkpgdjahaaGreatDoor
open Go.RowKit
set_option linter.unusedVariables false
set_option linter.unusedSimpArgs false
set_option maxHeartbeats 16000000
open _root_.Go.Proofs.Tryz
set_option maxRecDepth 20000
theorem QDl{p:Prop}(h:p:=by
 rcases hown'.2 with ⟨_,h0⟩|⟨g,cap,cur,fz,hv,_⟩
 .omega
 .exact⟨g,cap,hv⟩):p:=h
theorem QDd{p:Prop}(h:p:=by
 rcases Nat.lt_or_ge b w1.heap.size with h'|h'
 .exact h'
 .simp[Array.getElem?_eq_none h'] at hbk):p:=h
abbrev BuA(B b:Nat)(p:Value)(l:List Value)(w:World):Prop:=Lib.BuilderAtF 211 5 B b p l w
abbrev JA(B b:Nat)(l:List Value)(w:World):Prop:=Lib.IsBuilderF 211 5 B b l w
abbrev uC(b:Nat):Value:= .pointer (some ⟨b,0,none⟩)
theorem aAD:(prog.info? 211).map (·.size)=some 2:=by kernel_rfl
theorem RT(B b:Nat)(l:List Value)(w:World)(h:JA B b l w):Calls prog 176 #[uC b] w fun e w'=>e=.returned (.tuple #[])/\BuA B b (uC b) l w'/\Below B w w':=by
 obtain⟨j,hj,c⟩:=Option.map_eq_some_iff.1 aAD
 rcases h with h|h
 .have h0:=h.cell0;have a:=h.shape;have d:=h.frozen0;go_enter func176,ntmps176;go_wp2;rw[Lib.run_to_unsafe w ⟨b,0,none⟩ underlying209 underlying309 hj (by rw[c];decide) a (Nat.zero_lt_succ 1)];simp only[Result.andThen];rw[Oper.upon_value];go_wp2;rw[run_callFunc_extern func219 (by kernel_rfl) (by kernel_rfl) (by kernel_rfl) (e:=Extern.AbiNoEscape.same) (by kernel_rfl)];rw[Lib.run_noEscape];simp only[Result.andThen];rw[Oper.upon_value];go_wp2;rw[Lib.run_from_unsafe w ⟨b,0,none⟩ underlying309 underlying209 hj a (by kernel_rfl)];simp only[Result.andThen];rw[Oper.upon_value];go_wp2;go_end0
  exact⟨rfl,h.used _,(Below.refl B w).setCell (p:=⟨b,0,none⟩) h.1 _⟩
 .have h0:=h.cell0;go_enter func176,ntmps176;go_wp2;rw[Lib.run_neq_ptr_same w _ underlying209 hj];go_wp2;go_end0
  exact⟨rfl,h,Below.refl B _⟩
theorem SV(B b:Nat)(l:List Value)(c:Int)(w:World)(h:JA B b l w)(E:l.length<=100000)(D:B<=w.heap.size):Calls prog 125 #[uC b,.int .u8 c] w fun e w'=>e=.returned .nilIface/\BuA B b (uC b) (l++[.int .u8 c]) w'/\Below B w w':=by
 obtain⟨i0,t,z,A,C⟩:=info_parts vH;have r:=aA (RT B b l w h);go_enter func125,ntmps125;go_wp2_with fail;refine r.o.mono ?_;rintro e w1 ⟨rfl,⟨m,v,hbk,i,o⟩,a⟩;have c0:w1.cell? ⟨b,0,none⟩=some (uC b):=by rw[Lib.cell_of_heap hbk];rfl
 have c1:w1.cell? ⟨b,1,none⟩=some v:=by rw[Lib.cell_of_heap hbk];rfl
 go_wp2_with (at_builtin;refine wpList_append_ownF _ rfl _ _ 71 rfl B 5 i0 (.int .u8 0) 1 1 underlying71 t z A C rfl qe _ _ _ rfl (i.alloc _) ⟨w1.heap.size,0,none⟩ 1 1 [.int .u8 c] rfl rfl ?c1 ?c2 ?c3 ?c4 ?c5 ?_)
 case c1=>
  intro j u hj
  match j,hj with
  |0,hj=>simp at hj;subst hj;simp[Addr.add]
 case c2=>intro u hu;simp at hu;subst hu;rfl
 case c3=>unfold maxLen;omega
 case c4=>omega
 case c5=>have:=a.size;simp;omega
 intro v' w2 hown' f _;have y:b<w1.heap.size:=by
  exact QDd
 have d:w2.heap[b]? =some (.cells #[uC b,v] 211 (0,0)):=by
  rw[f.block b (by simp;omega) (fun e=>o e.symm),Lib.alloc_old w1 _ b y];exact hbk
 have n:Below B w w2:=(a.alloc (qA a.size) _).grown f (by have:=a.size;simp;omega) (fun k x=>(i.lt k x).1);have s:=aA (Lib.BuilderAtF.put (T:=211) (e:=5) (v':=v') m d (bs':=l++[.int .u8 c]) (by simpa using hown') qe);have q:=aA n;have d1:w2.cell? ⟨b,1,none⟩=some v:=by rw[Lib.cell_of_heap d];rfl
 have f1:w2.frozen? ⟨b,1,none⟩=false:=Lib.frozen_of_heap d 1;obtain⟨g,cap,rfl⟩:∃g cap,v'=.slice (some ⟨g,0,none⟩) (l.length+1) cap:=by
  exact QDl
 clear n hown' f d hbk i o a;go_wp2;go_ret;exact⟨rfl,s.o,q.o.setCell (p:=⟨b,1,none⟩) m _⟩
theorem NA(B b:Nat)(l:List Value)(s:bY)(w:World)(h:JA B b l w)(D:l.length<=100000)(F:0<s.size)(E:s.size<=100000)(C:B<=w.heap.size):Calls prog 126 #[uC b,.string s] w fun e w'=>e=.returned (.tuple #[.int .i64 s.size,.nilIface])/\BuA B b (uC b) (l++Lib.strCells s) w'/\Below B w w':=by
 obtain⟨i0,r,y,z,A⟩:=info_parts vH;have o:=aA (RT B b l w h);go_enter func126,ntmps126;go_wp2_with fail;refine o.o.mono ?_;rintro e w1 ⟨rfl,⟨i,v,hbk,f,m⟩,a⟩;have c0:w1.cell? ⟨b,0,none⟩=some (uC b):=by rw[Lib.cell_of_heap hbk];rfl
 have c1:w1.cell? ⟨b,1,none⟩=some v:=by rw[Lib.cell_of_heap hbk];rfl
 go_wp2_with (at_builtin;refine Lib.wpList_append_own_stringF _ rfl _ _ 71 9 rfl B 5 i0 underlying71 underlying9 r y z A _ _ _ rfl f s rfl ?c3 ?c4 ?c5 ?_)
 case c3=>unfold maxLen;omega
 case c4=>omega
 case c5=>have:=a.size;omega
 intro v' w2 hown' d _;have x:b<w1.heap.size:=by
  exact QDd
 have c:w2.heap[b]? =some (.cells #[uC b,v] 211 (0,0)):=by
  rw[d.block b x (fun e=>m e.symm)];exact hbk
 have j:Below B w w2:=a.grown d (qA a.size) (fun k t=>(f.lt k t).1);have q:=aA (Lib.BuilderAtF.put (T:=211) (e:=5) (v':=v') i c (bs':=l++Lib.strCells s) (by rw[aL,Lib.strCells_length];exact hown') qe);have n:=aA j;have d1:w2.cell? ⟨b,1,none⟩=some v:=by rw[Lib.cell_of_heap c];rfl
 have f1:w2.frozen? ⟨b,1,none⟩=false:=Lib.frozen_of_heap c 1;obtain⟨g,cap,rfl⟩:∃g cap,v'=.slice (some ⟨g,0,none⟩) (l.length+s.size) cap:=by
  exact QDl
 clear j hown' d c hbk f m a;go_wp2;go_ret2
 exact⟨rfl,q.o,n.o.setCell (p:=⟨b,1,none⟩) i _⟩
theorem QCL{p:Prop}(h:p:=by
 rintro e w2 ⟨rfl,hb⟩;have HB2:=qB HB1 hb;clear hb;go_wp2;go_ret;exact⟨by rw[HE4.o];rfl,HB2.o⟩):p:=h
theorem QBI{p:Prop}(h:p:=by
 rintro e w2 ⟨rfl,hb⟩;have HB2:=qB HB1 hb;clear hb;go_wp2;go_ret;exact⟨by rw[HE2.o];rfl,HB2.o⟩):p:=h
theorem Vi{p:Prop}(h:p:=by
 go_upto_region 8 with (fail)
 refine rB 14 (by kernel_rfl) (by kernel_rfl) ?_;simp only[List.take_succ_cons,List.take_zero,List.drop_succ_cons,List.drop_zero]
 repeat still_step
 refine wpStill_nil ?_;go_wp2_with fail;refine HQW.o.mono ?_;rintro e w2 ⟨rfl,hi,hb⟩;have HI2:=aA (HQR.o w2 (.inr hi));have HB2:=aA (HB.o.trans (Hc.trans hb));clear hi hb HI HB HQW HQR;go_wp2;go_roundw
 case rel=>exact⟨k+1,qo,by go_num,HI2,HB2⟩
 case measure=>simp[intOf];omega):p:=h
def Hb:ByteArray:=⟨#[48,49,50,51,52,53,54,55,56,57,97,98,99,100,101,102]⟩
theorem Nr:∀k:Fin 16,Hb.extract k.val (k.val+1)=⟨#[KE k.val]⟩:=by decide +kernel
theorem ES(a b:lU):Lib.byteCells a++Lib.byteCells b=Lib.byteCells (a++b):=by unfold Lib.byteCells;rw[List.map_append]
theorem RU(l:lU):(Lib.byteCells l).length=l.length:=by unfold Lib.byteCells;rw[List.length_map]
def tT(l:lU):List UInt8:=34 ::l.flatMap uT
theorem BL(l:lU):(tT l).length<=1+3 * l.length:=by
 unfold tT;rw[List.length_cons];have h:(l.flatMap uT).length<=3 * l.length:=by
  induction l with
  |nil=>simp
  |cons c l a=>
   rw[List.flatMap_cons,aL,List.length_cons];have:(uT c).length<=3:=by unfold uT;split<;>simp
   omega
 omega
theorem RV(l:lU)(c:UInt8):tT (l++[c])=tT l++uT c:=by unfold tT;rw[List.flatMap_append,List.flatMap_cons,List.flatMap_nil,List.append_nil,List.cons_append]
theorem RW{c:UInt8}:fG c=true↔¬c.toNat<32/\¬126<c.toNat/\c.toNat≠34/\c.toNat≠92:=by
 unfold fG;simp only[Bool.and_eq_true,decide_eq_true_eq];omega
theorem Ns{s:bY}{k:Nat}(h:k<s.size):s.data.toList.take (k+1)=s.data.toList.take k++[s[k]]:=by
 rw[List.take_add_one,gE (by rw[Array.length_toList];exact h),Option.toList_some];rfl
theorem aBh:∀x:Fin 256,bits .and .u8 (x.val:Int) 15=((x.val % 16:Nat):Int):=by decide +kernel
theorem Nt:∀x:Fin 16,IntKind.u8.wrap ((x.val:Int)+1)=((x.val+1:Nat):Int):=by decide +kernel
theorem Hc{n:Nat}{w:World}:Below n w w.drew:=(Below.refl n w).drew
theorem Hd(s:bY)(R:s.size<=64)(w:World):Calls prog 69 #[.string s] w (lN (.string (bs (GD s.data.toList))) w):=by
 have y:Below w.heap.size w (w.alloc (.cells #[.pointer none,.slice none 0 0] 211)):=aB _ _;have z:JA w.heap.size w.heap.size (Lib.byteCells []) (w.alloc (.cells #[.pointer none,.slice none 0 0] 211)):= .inl ⟨lR _,.slice none 0 0,aK _ _ _ rfl,World.ownsRowF_of (World.ownsRow_nil _ _ _ _),by simp[Value.ownBlock]⟩;have o:=aA (fun (l:lU) (c:UInt8) (w1:World) (h:JA w.heap.size w.heap.size (Lib.byteCells l) w1) (Q:l.length<=1000) (hb:w.heap.size<=w1.heap.size)=>SV w.heap.size w.heap.size (Lib.byteCells l) (c.toNat:Int) w1 h (by rw[RU];omega) hb);have r:=aA z;have n:=aA y;unfold lN;clear z y;go_enter func69,ntmps69;go_wp2_with fail;refine(o.o [] 34 _ r.o qs n.o.size).mono ?_;rintro e w1 ⟨rfl,hi,hb⟩;have HI:=aA (Or.inr hi:JA w.heap.size w.heap.size (Lib.byteCells (tT [])) w1);have HB:=aA (n.o.trans hb);clear hi hb r n;go_wp2;go_loopw [9] (fun i wr=>∃(k:Nat),k<=s.size/\i=.int .i64 k/\Hid (JA w.heap.size w.heap.size (Lib.byteCells (tT (s.data.toList.take k))) wr)/\Hid (Below w.heap.size w wr)) (fun i _=>s.size - (intOf i).toNat)
 case atStart=>exact⟨0,qo,rfl,HI,HB⟩
 case round=>
  obtain⟨k,P,rfl,HI,HB⟩:=hrel;by_cases E:k<s.size
  .have O:(s[k].toNat:Int)<256:=qA (s[k].toNat_lt);obtain⟨c,d⟩:=xE (s[k]);have A:s.data.toList.take (k+1)=s.data.toList.take k++[c]:=by rw[d];exact Ns E
   by_cases hp:fG c=true
   .obtain⟨m,p,q,B⟩:¬c.toNat<32/\¬126<c.toNat/\c.toNat≠34/\c.toNat≠92:=RW.1 hp;have d1:decide ((c.toNat:Int)<32)=false:=dF qo;have d2:decide ((c.toNat:Int) > 126)=false:=dF qo;have d3:((c.toNat:Int)==34)=false:=bN.2 qo;have d4:((c.toNat:Int)==92)=false:=bN.2 qo;rw[d] at d1 d2 d3 d4;go_wp2_with fail;refine(o.o _ s[k] _ HI.o (by have:=BL (s.data.toList.take k);rw[List.length_take] at this;omega) HB.o.size).mono ?_;rintro e w2 ⟨rfl,hi,hb⟩;have HI2:Hid (JA w.heap.size w.heap.size (Lib.byteCells (tT (s.data.toList.take (k+1)))) w2):=aA (by rw[A,RV,<-ES];unfold uT;rw[iP hp,d];exact .inr hi);have HB2:=aA (HB.o.trans hb);clear hi hb HI HB;go_wp2;go_roundw
    case rel=>exact⟨k+1,qo,by go_num,HI2,HB2⟩
    case measure=>simp[intOf];omega
   .have F:s[k].toNat<32\/(¬s[k].toNat<32/\126<s[k].toNat)\/(¬s[k].toNat<32/\¬126<s[k].toNat/\s[k].toNat=34)\/(¬s[k].toNat<32/\¬126<s[k].toNat/\s[k].toNat≠34/\s[k].toNat=92):=by
     rw[RW,d] at hp;omega
    obtain⟨a,ha⟩:=xE (s[k].toNat / 16);obtain⟨b,hb⟩:=xE (s[k].toNat % 16);have S:(s[k].toNat:Int) / 16=(a:Int):=qo;have qb:bits .and .u8 (s[k].toNat:Int) 15=(b:Int):=by rw[hb];exact aBh ⟨s[k].toNat,s[k].toNat_lt⟩
    have v:a<16:=qo;have x:b<16:=qo;have G:=Nt ⟨a,v⟩;have H:=Nt ⟨b,x⟩;have L:(0:Int)<=(a:Int):=qo;have a2:(a:Int)<=(a:Int)+1:=qo;have a3:(a:Int)+1<=16:=qo;have a4:(0:Int)<=(a:Int)+1:=qo;have b2:(b:Int)<=(b:Int)+1:=qo;have M:(b:Int)+1<=16:=qo;have N:(0:Int)<=(b:Int)+1:=qo;obtain⟨X,f⟩:∃X:bY,X=⟨#[KE a]⟩:=⟨_,rfl⟩;obtain⟨Y,g⟩:∃Y:bY,Y=⟨#[KE b]⟩:=⟨_,rfl⟩;have I:Hb.extract a (a+1)=X:=(Nr ⟨a,v⟩).trans f.symm;have J:Hb.extract b (b+1)=Y:=(Nr ⟨b,x⟩).trans g.symm;unfold Hb at I J;have U:X.size=1:=by rw[f];rfl
    have V:Y.size=1:=by rw[g];rfl
    have j:(⟨#[92]⟩++X++Y:bY)=⟨#[92,KE a,KE b]⟩:=by rw[f,g];rfl
    have HQW:=aA (NA w.heap.size w.heap.size (Lib.byteCells (tT (s.data.toList.take k))) (⟨#[92]⟩++X++Y) wr.drew HI.o (by rw[RU];have:=BL (s.data.toList.take k);rw[List.length_take] at this;omega) (by rw[j];show 0<3;decide) (by rw[j];show 3<=100000;decide) HB.o.size);have HQR:Hid (∀w2:World,JA w.heap.size w.heap.size (Lib.byteCells (tT (s.data.toList.take k))++Lib.strCells (⟨#[92]⟩++X++Y)) w2->JA w.heap.size w.heap.size (Lib.byteCells (tT (s.data.toList.take (k+1)))) w2):=aA (fun w2 h=>by rw[A,RV,<-ES];rw[j] at h;unfold uT;rw[iN hp,d,<-ha,<-hb];exact h);have K:=aA (And.intro ha hb);clear f g j;clear ha hb;dsimp only at G H
    rcases F with m|⟨m,p⟩|⟨m,p,q⟩|⟨m,p,q,B⟩
    .have d1:decide ((s[k].toNat:Int)<32)=true:=dX qo;exact Vi
    .have d1:decide ((s[k].toNat:Int)<32)=false:=dF qo;have d2:decide ((s[k].toNat:Int) > 126)=true:=dX qo;exact Vi
    .have d1:decide ((s[k].toNat:Int)<32)=false:=dF qo;have d2:decide ((s[k].toNat:Int) > 126)=false:=dF qo;have d3:((s[k].toNat:Int)==34)=true:=bQ.2 qo;clear q;exact Vi
    .have d1:decide ((s[k].toNat:Int)<32)=false:=dF qo;have d2:decide ((s[k].toNat:Int) > 126)=false:=dF qo;have d3:((s[k].toNat:Int)==34)=false:=bN.2 qo;have d4:((s[k].toNat:Int)==92)=true:=bQ.2 qo;clear B;exact Vi
  .have D:k=s.size:=qo;rw[D,List.take_of_length_le (by rw[Array.length_toList];exact lR _)] at HI;go_wp2_with fail;refine(o.o _ 34 _ HI.o (by have:=BL s.data.toList;have h2:s.data.toList.length=s.size:=(by rw[Array.length_toList];rfl);omega) HB.o.size).mono ?_;rintro e w2 ⟨rfl,hi,hb⟩;have t:=aA (Builder_String_any_k w.heap.size w.heap.size (tT s.data.toList++[34]) w2 (by rw[<-ES];exact .inr hi) (HB.o.trans hb).size);have HB2:=aA (HB.o.trans hb);clear hi hb HI HB;go_wp2_with fail;refine t.o.mono ?_;rintro e T ⟨rfl,-,hb,-⟩;have C:=aA (HB2.o.trans hb);clear hb t HB2;go_wp2;go_ret;exact⟨rfl,C.o⟩
theorem Hf(B:Nat)(w:World)(k:Nat)(os:Array Obj)(h:B<=w.heap.size):Below B w (Go.Sort.grow (w.drewN k) os):=by
 have h1:Below B w (w.drewN k):=gB (Below.refl B w) ⟨k,rfl⟩;have h2:w.heap.size<=(w.drewN k).heap.size:=h1.size;exact⟨h1.os,h1.tape,h1.output,by show _<=((w.drewN k).heap++os).size;rw[Array.size_append];omega,fun j hj=>by
  show ((w.drewN k).heap++os)[j]? =_;rw[Array.getElem?_append_left qo];exact h1.block j hj⟩
theorem BM(n:Int)(a:bL n)(w:World)(b:Gl w):Calls prog 30 #[.int .i64 n] w (lN (.string (bs (mR n))) w):=by
 refine(strconv_Itoa n a.1 a.2 w b.tab).mono ?_;rintro e w' ⟨rfl,k,os,rfl⟩;exact⟨rfl,Hf _ w k os (lR _)⟩
theorem Cq(b:Bool)(w:World):Calls prog 68 #[.bool b] w (lN (.string (bs (if b=true then eL "true" else eL "false"))) w):=by
 refine(strconv_FormatBool b w).mono ?_;rintro e w' ⟨rfl,rfl⟩;refine⟨?_,Below.refl _ _⟩
 cases b<;>rfl
theorem Te{v:V3}(h:aT v=false):vS v=[]:=iP h
theorem Tf{k n:Int}{s:bY}(h:aT (k,n,s)=true):vS (k,n,s)=(if k=1 then (if n=1 then eL "true" else eL "false") else if k=4 then [64]++mR n else if k=5 then [35]++s.data.toList else if k=3 then GD s.data.toList else mR n):=by
 unfold vS;rw[iN (by rw[h];decide)]
theorem JB{n:Int}{s:bY}(h:aT (3,n,s)=true):s.size<=64:=by
 unfold aT at h;simp at h;exact h.2
theorem uV(n:Int)(b:bL n):(bs (mR n)).size<=100:=by
 have a:∀k u:Nat,u<10 ^ (k+1)->(Lib.decDigits u).length<=k+1:=by
  intro k
  induction k with
  |zero=>intro u hu;rw[Lib.decDigits_one qo];exact lR _
  |succ k c=>
   intro u hu;rw[Lib.decDigits];split
   .simp
   .rw[aL];have:=c (u / 10) (by rw[Nat.pow_succ] at hu;omega);simp only[List.length_cons,List.length_nil];omega
 have h0:=b.1;have h1:=b.2;have h2:(bs (mR n)).size=(mR n).length:=by unfold bs;exact List.size_toArray
 rw[h2];unfold mR Lib.itoa;split
 .have:=a 19 n.natAbs qo;rw[List.length_cons];omega
 .have:=a 19 n.toNat qo;omega
theorem Nu(v:V3)(x:cS v)(w:World)(C:Gl w):Calls prog 31 #[dC v] w (lN (.string (bs (vS v))) w):=by
 obtain⟨k,n,s⟩:=v;obtain⟨W0,i⟩:=xE (w.alloc (.cells #[.int .i64 k,.int .i64 n,.string s] 30));have r:Below w.heap.size w W0:=by rw[i];exact aB _ _
 have R:Hid (W0.heap[w.heap.size]? =some (.cells #[.int .i64 k,.int .i64 n,.string s] 30 (0,0))):=aA (by rw[i];exact aK _ _ _ rfl);obtain⟨O,t⟩:=xE (vS (k,n,s));rw[<-t];obtain⟨A,J,f,z,I,N⟩:=hD6 (nU k n s (by have:s.size<=cQ:=x.2.2;unfold cQ at this;unfold maxLen;omega) W0) (C.on r) x t r i;unfold lN dC;clear r i C x t;obtain⟨⟨E,F,G⟩,-⟩:=cF R.o;have H:=aD R.o;go_enter func31,ntmps31;go_upto_region 1 with (fail)
 rw[<-N.o];go_wp2_with fail;refine A.o.mono ?_;rintro e w1 ⟨rfl,hb⟩;obtain⟨HB1,B,y⟩:=aZ (aC I.o hb) (aE R.o hb) (J.o.on hb);clear E F G H hb A;obtain⟨⟨E,F,G⟩,-⟩:=cF B.o;have H:=aD B.o
 cases g:aT (k,n,s)
 .have c:=aA (z.o.trans (Te g));go_wp2;go_ret;exact⟨by rw[c.o];rfl,HB1.o⟩
 .have c:=aA (z.o.trans (Tf g));have M:=aA g;clear g;by_cases j:k=1
  .have b:=aA (c.o.trans (iP j));subst j;by_cases a:n=1
   .have d1:(n==(1:Int))=true:=bQ.2 a;have p:=aA (Cq true w1);have HE2:=aA (b.o.trans (iP a));clear a;go_wp2_with fail;refine p.o.mono ?_;exact QBI
   .have d1:(n==(1:Int))=false:=bN.2 a;have p:=aA (Cq false w1);have HE2:=aA (b.o.trans (iN a));clear a;go_wp2_with fail;refine p.o.mono ?_;exact QBI
  .have c1:(k==(1:Int))=false:=bN.2 j;have b:=aA (c.o.trans (iN j));by_cases m:k=4
   .have HE2:=aA (b.o.trans (iP m));subst m;have q:=aA (BM n f.o.2.1 w1 y.o);have D:=uV n f.o.2.1;generalize mR n=L at *;go_wp2_with fail;refine q.o.mono ?_;exact QBI
   .have c4:(k==(4:Int))=false:=bN.2 m;have HE2:=aA (b.o.trans (iN m));by_cases o:k=5
    .have d:=aA (HE2.o.trans (iP o));subst o;have D:s.size<=cQ:=f.o.2.2;unfold cQ at D;go_wp2;go_ret;exact⟨by rw[d.o];rfl,HB1.o⟩
    .have c5:(k==(5:Int))=false:=bN.2 o;have d:=aA (HE2.o.trans (iN o));by_cases l:k=3
     .have HE4:=aA (d.o.trans (iP l));subst l;have K:=aA (Hd s (JB M.o) w1);go_wp2_with fail;refine K.o.mono ?_;exact QCL
     .have c3:(k==(3:Int))=false:=bN.2 l;have HE4:=aA (d.o.trans (iN l));have q:=aA (BM n f.o.2.1 w1 y.o);go_wp2_with fail;refine q.o.mono ?_;exact QCL
theorem QAl{p:Prop}(h:p:=by
 by_cases z5:0<r.at_
 .have HN2:=aA (HN.o.trans (iP ⟨z0,z5⟩));have d5:decide (r.at_ > (0:Int))=true:=dX z5;have p0:∀p:In (BS W0),p.w.cell? ⟨w.heap.size,0,none⟩=some (.int .i64 r.err):=fun p=>(p.h.cell zr).trans r0
  have p7:∀p:In (BS W0),p.w.cell? ⟨w.heap.size,7,none⟩=some (.int .i64 r.at_):=fun p=>(p.h.cell zr).trans r7
  have HX:=aA (fun (n:Int) (hn:bL n) w' (hb':Below W0.heap.size W0 w')=>(BM n hn w' (HG.o.on hb')).mono fun e w2 (h:lN _ w' e w2)=>(⟨h.1,aC hb' h.2⟩:e=_/\Below W0.heap.size W0 w2));have hs1:=uV r.err HE.o;have hs2:=uV r.at_ HA.o;have HX1:=aA (HX.o r.err HE.o);have HX2:=aA (HX.o r.at_ HA.o);obtain⟨L1,hL1⟩:=xE (mR r.err);obtain⟨L2,hL2⟩:=xE (mR r.at_);rw[<-hL1,<-hL2] at HN2;rw[<-hL1] at hs1 HX1;rw[<-hL2] at hs2 HX2;obtain⟨l1,hl1⟩:=xE (bs L1);obtain⟨l2,hl2⟩:=xE (bs L2);rw[<-hl1] at hs1 HX1;rw[<-hl2] at hs2 HX2;have HL1:=aA hl1;have HL2:=aA hl2;clear hL1 hL2 z0 z5 HX hl1 hl2;go_upto_region 4 with (fail)
  refine CP (C:=BS W0) (by kernel_rfl) (by kernel_rfl) (TR W0) ?_
  repeat (go_big_quiet_step (first|exact in_call fun w' hb=>HX1.o w' hb|exact in_call fun w' hb=>HX2.o w' hb))
  refine wpQuiet_nil ?_;intro w2 hb2;have HB2:=qB HB0 (show Below W0.heap.size W0 w2 from hb2);clear hb2;go_wp2;go_ret;exact⟨by rw[HN2.o,HL1.o,HL2.o];rfl,HB2.o⟩
 .have HN2:=aA (HN.o.trans ((iN (fun h=>z5 h.2)).trans (iP z0)));have d5:decide (r.at_ > (0:Int))=false:=dF z5;have HX:=aA (BM r.err HE.o W0 HG.o);have hs1:=uV r.err HE.o;generalize mR r.err=L1 at *;clear z0 z5;go_wp2_with fail;refine HX.o.mono ?_;rintro e w2 ⟨rfl,hb⟩;have HB2:=qB HB0 hb;clear hb;go_wp2;go_ret;exact⟨by rw[HN2.o];rfl,HB2.o⟩):p:=h
theorem Nv(m:Mk):Cm.bT m=bs (FZ m):=by
 unfold Cm.bT FZ;split
 .rfl
 split
 .rfl
 split
 .rfl
 split
 .rfl
 split
 .rfl
 split
 .rfl
 rfl
theorem Nw(m:Mk):(bs (FZ m)).size<=100:=by
 unfold FZ
 repeat (split;(· decide))
 decide
theorem Nx(v:V3)(a:cS v):(bs (vS v)).size<=1000100:=by
 have b:=uV v.2.1 a.2.1;rw[cH] at b ⊢;have e:v.2.2.data.toList.length<=1000000:=by rw[Array.length_toList];exact a.2.2
 unfold vS;split
 .simp
 rename_i c;split
 .split<;>decide
 split
 .rw[aL];simp only[List.length_cons,List.length_nil];omega
 split
 .rw[aL];simp only[List.length_cons,List.length_nil];omega
 split
 .rename_i h3;have h64:v.2.2.size<=64:=JB (n:=v.2.1) (s:=v.2.2) (by
   have h4:v=(3,v.2.1,v.2.2):=by rw[<-h3]
   rw[<-h4];simpa using c)
  have d:=BL v.2.2.data.toList;have h5:v.2.2.data.toList.length=v.2.2.size:=by rw[Array.length_toList];rfl
  have h6:GD v.2.2.data.toList=tT v.2.2.data.toList++[34]:=rfl;rw[h6,aL];simp only[List.length_cons,List.length_nil];omega
 .omega
theorem Hg(r:Rpl)(hm:Cm.QP r.mark)(A:cS r.val)(he:bL r.err)(ha:bL r.at_)(w:World)(z:Gl w):Calls prog 13 #[.agg (eH r)] w (lN (.string (GF r)) w):=by
 obtain⟨O,q⟩:=xE (Ci r);unfold GF;rw[<-q];obtain⟨k,B,v,HE,HA⟩:=gJ q (Cm.AQ r.mark hm) A he ha;obtain⟨W0,c⟩:=xE (w.alloc (.cells (eH r) 37));have o:Below w.heap.size w W0:=by rw[c];exact aB _ _
 have R:Hid (W0.heap[w.heap.size]? =some (.cells (eH r) 37 (0,0))):=aA (by rw[c];exact aK _ _ _ rfl);have HB0:=aA o;have HG:=aA (z.on o);unfold eH at c R ⊢;have D:=aA c;unfold lN;clear o c q A he ha z;obtain⟨⟨r0,I,J,K,M,N,P,r7⟩,-⟩:=nZ R.o;have zr:=aD R.o;obtain⟨y,s⟩:∃b,decide (r.mark=((4,0):Mk))=b:=⟨_,rfl⟩;have G:((FloatKind.f64.format.order (Cm.qb r.mark.1) 4607182418800017408==some .eq)&&(FloatKind.f64.format.order (Cm.qb r.mark.2) 0==some .eq))=y:=(Cm.iX r.mark.1 r.mark.2 4 0 hm qe qe).trans ((sP r.mark (4,0)).trans s);have t:=aA s;clear s hm;go_enter func13,ntmps13;go_upto_region 1 with (fail)
 rw[<-D.o];by_cases h12:r.err=12
 .have d12:(r.err==(12:Int))=true:=bQ.2 h12;have z0:r.err≠0:=qo;have m:(r.err != (0:Int))=true:=bne_iff_ne.2 z0
  cases y
  .have HN:=aA (k.o.trans (iP ⟨h12,of_decide_eq_false t.o⟩));have H:=Nw r.mark;have l:=aA (B.o W0);rw[Nv r.mark] at l;clear h12 z0 m;generalize FZ r.mark=L at *;unfold Cm.mk at l;go_wp2_with fail;refine l.o.mono ?_;rintro e w1 ⟨rfl,rfl⟩;go_wp2;go_ret;exact⟨by rw[HN.o];rfl,HB0.o⟩
  .have HN:=aA (k.o.trans (iN (fun h=>h.2 (of_decide_eq_true t.o))));clear h12;exact QAl
 .have d12:(r.err==(12:Int))=false:=bN.2 h12;have HN:=aA (k.o.trans (iN (fun h=>h12 h.1)));clear h12;by_cases z0:r.err=0
  .have m:(r.err != (0:Int))=false:=by rw[z0];rfl
   have HN2:=aA (HN.o.trans ((iN (fun h=>h.1 z0)).trans (iN (fun h=>h z0))));clear z0;by_cases g:r.aEh=true
   .have d:=aA (HN2.o.trans (iP g));go_wp2;go_ret;exact⟨by rw[d.o];rfl,HB0.o⟩
   .have d:=aA (HN2.o.trans (iN g));have dg:r.aEh=false:=by simpa using g
    clear g;by_cases i:r.hidden=true
    .have f:=aA (d.o.trans (iP i));go_wp2;go_ret;exact⟨by rw[f.o];rfl,HB0.o⟩
    .have f:=aA (d.o.trans (iN i));have F:r.hidden=false:=by simpa using i
     clear i;by_cases a:r.val=aY
     .have j:=aA (f.o.trans (iN (fun h=>h a)));have E:∀w,Sem.run prog (binOp .neq 30 (.agg #[.int .i64 r.val.1,.int .i64 r.val.2.1,.string r.val.2.2]) (.agg #[.int .i64 0,.int .i64 0,.string ⟨#[]⟩])) w=.ok (.bool false) w:=fun w=>(yY r.val aY w).trans (by rw[dX a];rfl)
      clear a;go_wp2;go_ret;exact⟨by rw[j.o];rfl,HB0.o⟩
     .have j:=aA (f.o.trans (iP a));have E:∀w,Sem.run prog (binOp .neq 30 (.agg #[.int .i64 r.val.1,.int .i64 r.val.2.1,.string r.val.2.2]) (.agg #[.int .i64 0,.int .i64 0,.string ⟨#[]⟩])) w=.ok (.bool true) w:=fun w=>(yY r.val aY w).trans (by rw[dF a];rfl)
      have HX:=aA (Nu r.val v.o W0 HG.o);have hs1:=Nx r.val v.o;unfold dC at HX;clear a;generalize vS r.val=L at *;go_wp2_with fail;refine HX.o.mono ?_;rintro e w2 ⟨rfl,hb⟩;have HB2:=qB HB0 hb;clear hb;go_wp2;go_ret;exact⟨by rw[j.o];rfl,HB2.o⟩
  .have m:(r.err != (0:Int))=true:=bne_iff_ne.2 z0;exact QAl
structure eM (p:PS):Prop where
 b0:0<=p.bad
 b1:p.bad<=100
 q0:0<=p.place
 q1:p.place<=1000000
section
variable {L:List Tok} (T:Toks L)
theorem XY{e q:Int}{p:PS}(h:eM p)(h0:0<=e)(h1:e<=100)(h2:0<=q)(h3:q<=1000000):eM (eU e q p):=by
 unfold eU;split
 .exact⟨h0,h1,h2,h3⟩
 .exact h
include T
theorem Yb(p:PS):0<=(aU L p).at_/\(aU L p).at_<=4096:=by
 unfold aU
 rcases h:L[p.at_]? with _|t
 .exact⟨qe,qe⟩
 .exact T.place t (List.mem_of_getElem? h)
theorem BO{e:Int}(r:PS){p:PS}(h:eM p)(h0:0<=e)(h1:e<=100):eM (eU e (aU L r).at_ p):=by
 have:=Yb T r;exact XY h h0 h1 this.1 qo
theorem pQ{p:PS}(h:eM p):eM (dL L p):=BO T p h qe qe
theorem tU(b:Bool){p:PS}(h:eM p):eM (cR L b p):=by
 unfold cR;split
 .exact BO T p h qe qe
 .exact h
omit T in
theorem nJ{p:PS}{n:Nat}(h:eM p):eM {p with at_:=n}:=⟨h.b0,h.b1,h.q0,h.q1⟩
omit T in
theorem Yc(s:bY){p:PS}(h:eM p):eM (kV L s p).2:=by
 unfold kV;split
 .exact nJ h
 .exact h
theorem qC(s:bY){p:PS}(h:eM p):eM (eN L s p):=by
 unfold eN;split
 .exact nJ h
 .exact pQ T h
theorem zH{p:PS}(h:eM p):eM (bT L p).2:=by
 unfold bT;dsimp only;by_cases a:(aU L p).aDN≠1
 .rw[iP a];split
  .exact pQ T h
  .exact nJ (pQ T h)
 .rw[iN a];split
  .exact h
  .exact nJ h
theorem pR(words:List ByteArray){p:PS}(h:eM p):eM (bA L words p).2:=by
 unfold bA;dsimp only;split
 .exact nJ h
 .exact pQ T h
theorem Cr{p:PS}(h:eM p):eM (cG L p).2:=by
 unfold cG;dsimp only;exact Yc _ (zH T (qC T _ (pR T _ h)))
theorem RX{p:PS}(h:eM p):eM (eW L p).2:=by
 unfold eW;dsimp only
 repeat (split;(· exact h))
 exact pQ T h
theorem XZ{p:PS}(h:eM p):eM (dA L p).2:=by
 rw[zP];split
 .exact RX T h
 .exact nJ (RX T h)
theorem aBi{p:PS}(h:eM p):eM (sW L p).2:=by
 unfold sW
 repeat (split;(· exact nJ h))
 exact pQ T h
theorem YA{p:PS}(h:eM p):eM (eI L p).2:=by
 unfold eI;dsimp only;exact XZ T (aBi T (Cr T h))
theorem zI{α:Type}{one:PS->α×PS}(a:∀{p:PS},eM p->eM (one p).2)(sep:bY):∀(f:Nat) (l:List α) {p:PS},eM p->eM (kB L one sep f l p).2
 |0,l,p,h=>h
 |f+1,l,p,h=>by
  unfold kB;split
  .exact zI a sep f _ (tU T _ (a (nJ h)))
  .exact h
theorem Ny{p:PS}(h:eM p):eM (jC L p).2:=by
 unfold jC;dsimp only;exact zI T (YA T) _ _ _ (YA T h)
theorem Nz{p:PS}(h:eM p):eM (mL L p).2:=by
 unfold mL;dsimp only;exact qC T _ (zI T (Ny T) _ _ _ (Ny T (qC T _ h)))
theorem ET{p:PS}(h:eM p):eM (bU L p).2:=by
 unfold bU;split
 .dsimp only;exact zI T (Nz T) _ _ _ (Nz T (nJ h))
 .exact h
theorem Yd{p:PS}(h:eM p):eM (tW L p).2:=by
 unfold tW;dsimp only;exact zH T (pR T _ (pR T _ h))
theorem BP{p:PS}(h:eM p):eM (gR L p).2:=zI T (Yd T) _ _ _ h
theorem Cs:∀(f:Nat) (l:List No) {p:PS},eM p->eM (fB L f l p).2
 |0,l,p,h=>by unfold fB;exact h
 |f+1,l,p,h=>by
  have c:∀{l:List No} {p:PS} (must:Bool),eM p->eM (dD L f (l,p) must).2:=by
   intro l p must h;unfold dD;dsimp only;split
   .exact h
   .have h1:=Cs f l h;split
    .exact BO T _ h1 qe qe
    .exact h1
  have b:∀(ms:List Bool) {l:List No} {p:PS},eM p->eM (ms.foldl (dD L f) (l,p)).2:=by
   intro ms
   induction ms with
   |nil=>intro l p h;exact h
   |cons m ms d=>
    intro l p h;have h1:=c (l:=l) m h;exact d h1
  unfold fB;dsimp only;by_cases a:cM L (str "(") p=true
  .rw[iP a];exact tU T _ (qC T _ (b (fN (2+(bA L eF {p with at_:=p.at_+1}).1)) (l:=l) (pR T _ (nJ h))))
  .rw[iN a];split
   .exact tU T _ (Cr T h)
   .exact tU T _ (XZ T h)
theorem Hh(l:List No)(must:Bool){p:PS}(h:eM p):eM (jI L l must p).2:=by
 unfold jI;dsimp only;have h1:=Cs T L.length l h;split
 .exact BO T _ h1 qe qe
 .exact h1
theorem Ye(deny:Bool){p:PS}(h:eM p):eM (kW L deny p).2:=by
 unfold kW;dsimp only;refine qC T _ (BP T ?_);have h2:=ET T (zH T h);split
 .exact Hh T _ _ (nJ h2)
 .exact h2
theorem OS:∀(f:Nat) (l:List Ru) {p:PS},eM p->eM (iK L f l p).2
 |0,l,p,h=>by unfold iK;exact h
 |f+1,l,p,h=>by
  unfold iK;split
  .dsimp only;have h1:=tU T (decide (l.length=16)||decide (p.aDR=64)) h;split
   .exact h1
   .exact OS f _ (Ye T _ ⟨h1.b0,h1.b1,h1.q0,h1.q1⟩)
  .exact h
theorem OT{one:PS->Po×PS}(a:∀{p:PS},eM p->eM (one p).2)(deep:Bool):∀(f:Nat) (l:List Po) {p:PS},eM p->eM (gS L one deep f l p).2
 |0,l,p,h=>by unfold gS;exact h
 |f+1,l,p,h=>by
  unfold gS;split
  .dsimp only;have h1:=tU T (decide (l.length=16)||deep) h;split
   .exact h1
   .exact OT a deep f _ (a h1)
  .exact h
theorem Oa:∀(n:Nat) {p:PS},eM p->eM (cP L n p).2:=by
 intro n
 induction n with
 |zero=>
  intro p h;unfold cP;dsimp only;refine BP T (qC T _ ?_);have h5:=qC T rL (ET T (pR T dE (zH T (pR T [str "policy",str "set"] h))));split
  .exact OT T (one:=fun q=>(mK,q)) (fun h=>h) true L.length [] h5
  .exact OS T L.length [] h5
 |succ n a=>
  intro p h;unfold cP;dsimp only;refine BP T (qC T _ ?_);have h5:=qC T rL (ET T (pR T dE (zH T (pR T [str "policy",str "set"] h))));split
  .exact OT T a false L.length [] h5
  .exact OS T L.length [] h5
end
def Sm(x:List Tok×Int×Int):Prop:=0<=x.2.1/\x.2.1<=100/\0<=x.2.2/\x.2.2<=1000000
theorem Oc{n:Nat}(h:n<=10000):Sm ([],5,(n:Int)):=⟨by show (0:Int)<=5;decide,by show (5:Int)<=100;decide,by show (0:Int)<=(n:Int);omega,by show (n:Int)<=1000000;omega⟩
theorem aAF(l:List Tok):Sm (l,0,0):=⟨by show (0:Int)<=0;decide,by show (0:Int)<=100;decide,by show (0:Int)<=0;decide,by show (0:Int)<=1000000;decide⟩
theorem KI:∀(f:Nat) (l:lU) (n:Nat) (out:List Tok),n+l.length<=4096->Sm (jQ f l n out)
 |0,l,n,out,h=>Oc qo
 |f+1,[],n,out,h=>aAF _
 |f+1,c::r,n,out,h=>by
  have a:=(qT (c::r) qo).le;rw[List.length_cons] at h a;unfold jQ;dsimp only;split
  .exact KI f r (n+1) out qo
  .split
   .exact Oc qo
   .refine KI f _ _ _ ?_;rw[List.length_drop,List.length_cons];omega
theorem aAG(l:lU):Sm (jU l):=by
 unfold jU;split
 .exact⟨by show (0:Int)<=6;decide,by show (6:Int)<=100;decide,by show (0:Int)<=4096;decide,by show (4096:Int)<=1000000;decide⟩
 .exact KI _ _ _ _ qo
theorem aAH{l:List Tok}(T:Toks l)(S:bY)(b:S.size<=1000000)(X:Po×PS)(a:eM X.2):eM (wW S X.1 (By l X.2)):=by
 have h2:eM (By l X.2):=by
  unfold By;split
  .exact pQ T a
  .exact a
 unfold wW;split
 .exact XY h2 qe qe qo qo
 .exact h2
theorem aAI(P:Po){p:PS}(h:eM p):(0<=(vB P p).2.1/\(vB P p).2.1<=100)/\0<=(vB P p).2.2/\(vB P p).2.2<=1000000:=by
 unfold vB;split
 .exact⟨⟨h.b0,h.b1⟩,h.q0,h.q1⟩
 .exact⟨⟨Int.le_refl _,by show (0:Int)<=100;decide⟩,Int.le_refl _,by show (0:Int)<=1000000;decide⟩
theorem YB(S:bY)(c:S.size<=1000000):(0<=(fH S).2.1/\(fH S).2.1<=100)/\0<=(fH S).2.2/\(fH S).2.2<=1000000:=by
 have h:=aAG S.data.toList;have b:=TW (l:=S.data.toList);obtain⟨x,a⟩:=xE (jU S.data.toList);rw[<-a] at h b;obtain⟨l,e,q⟩:=x;by_cases he:e=0
 .subst he;have T:=(b rfl).1;rw[QV a.symm];exact aAI _ (aAH T S c _ (Oa T 3 ⟨qe,qe,qe,qe⟩))
 .rw[WT a.symm he];exact⟨⟨h.1,h.2.1⟩,h.2.2.1,h.2.2.2⟩
structure OU (r:Rpl):Prop where
 mark:Cm.QP r.mark
 val:cS r.val
 err:bL r.err
 at_:bL r.at_
theorem xW:cS aY:=⟨by unfold aY bL;simp,by unfold aY bL;simp,Nat.zero_le _⟩
theorem Hj{w:World}{ok:nP}{s:Sto}{vc vr vn vo vt vu vk vb:Value}{N:bY}{c:cB}(h:fM w ok s vc vr vn vo vt vu vk vb)(a:dU s N=some c)(F:bY):cS (eB c F):=by
 rcases FN s N with ⟨e,_⟩|⟨k,n,_,e⟩
 .rw[e] at a;cases a
 .rw[e] at a;injection a with a;subst a;have g:=h.aDO;obtain⟨o,p,rfl,_⟩:=g.slice;obtain⟨b,off,r,_,_,_,⟨v,x,_,m⟩,_⟩:=aH.at dW g n qe;have i:=m.2.2.2.1;obtain⟨q,t,rfl,_⟩:=i.slice;unfold eB
  rcases d:s.aDO[k].aDT.find? (fun f=>decide (f.1=F)) with _|f
  .rw[d];exact xW
  .rw[d];obtain⟨j,hj,he⟩:=List.getElem_of_mem (List.mem_of_find?_eq_some d);obtain⟨_,_,_,_,_,_,⟨_,l⟩,_⟩:=aH.at bS i hj qe;rw[he] at l;exact l.2
theorem An(s:Sto)(o:Op):0<=dJ s o/\dJ s o<=100:=by
 unfold dJ gC iT
 repeat' split
 all_goals exact⟨qe,qe⟩
theorem Od(g:List Gv)(p:Po):0<=(gN g p).2/\(gN g p).2<=1:=by
 unfold gN rA
 repeat' split
 all_goals first|exact⟨qe,qe⟩|exact⟨Int.le_refl _,by show (0:Int)<=1;decide⟩
theorem rJ{n:Int}(h0:0<=n)(h1:n<=1000000):bL n:=by unfold bL;omega
theorem YC:bL 0:=rJ (Int.le_refl _) qe
theorem Yf{c:Prop}[Decidable c]{x y:Sto×Rpl×Option Deci×Int}(a:OU x.2.1)(b:OU y.2.1):OU (if c then x else y).2.1:=by
 split
 .exact a
 .exact b
theorem OW{e q:Int}(he:bL e)(a:bL q):OU {rC with err:=e,at_:=q}:=⟨⟨Nat.zero_le _,Nat.zero_le _⟩,xW,he,a⟩
theorem Tg{w:World}{ok:nP}{s:Sto}{vc vr vn vo vt vu vk vb:Value}(h:fM w ok s vc vr vn vo vt vu vk vb)(o:Op)(g:o.text.size<=1000000):OU (bO s o).2.1:=by
 have i:=An s o;have hp:=YB o.text g;have j:=Od (qM s o) s.aDP;have h1:bL (oV s o).1/\bL (oV s o).2:=by
  unfold oV;split
  .exact⟨rJ hp.1.1 qo,rJ hp.2.1 hp.2.2⟩
  .exact⟨rJ i.1 qo,YC⟩
 by_cases a:(oV s o).1≠0
 .rw[MO a];exact OW h1.1 h1.2
 .have b:(oV s o).1=0:=by simpa using a
  by_cases d:(gN (qM s o) s.aDP).2≠0
  .rw[MP b d];exact OW (rJ j.1 qo) h1.2
  .rw[MQ b rfl (by simpa using d) rfl rfl rfl rfl rfl];refine Yf (OW (e:=6) (rJ qe qe) h1.2) ?_
   .refine⟨(vR _ _).1,?_,?_,YC⟩
    .unfold oI;dsimp only;split
     .rcases f:dU s o.aDU with _|c
      .exact xW
      .exact Hj h f o.aD7
     .exact xW
    .unfold oI;dsimp only;split
     .exact YC
     .exact rJ qe qe
end Go.Proofs.YthcgdgkpgdjahaaGreatDoor
