/- Lemmas. -/
import Derived.Lib.FrozenHead2
import Derived.Lib.OthersKept
import Derived.Test.YtbinmcabjnoliaaGreatDoorMbp
namespace Go.Proofs.YtbinmcabjnoliaaGreatDoor
open Go.RowKit
set_option linter.unusedVariables false
set_option linter.unusedSimpArgs false
set_option maxHeartbeats 16000000
open _root_.Go.Proofs.Tryz
set_option maxRecDepth 20000
theorem QDl{p:Prop}(h:p:=by
 rcases hown'.2 with ⟨_,h0⟩|⟨g,cap,cur,fz,hv,_⟩
 .omega
 .exact⟨g,cap,hv⟩):p:=h
theorem QDd{p:Prop}(h:p:=by
 rcases Nat.lt_or_ge b w1.heap.size with h'|h'
 .exact h'
 .simp[Array.getElem?_eq_none h'] at hbk):p:=h
abbrev Yz(B b:Nat)(p:Value)(l:List Value)(w:World):Prop:=Lib.BuilderAtF 207 5 B b p l w
abbrev ID(B b:Nat)(l:List Value)(w:World):Prop:=Lib.IsBuilderF 207 5 B b l w
abbrev tP(b:Nat):Value:= .pointer (some ⟨b,0,none⟩)
theorem Za:(prog.info? 207).map (·.size)=some 2:=by kernel_rfl
theorem QD(B b:Nat)(l:List Value)(w:World)(h:ID B b l w):Calls prog 177 #[tP b] w fun e w'=>e=.returned (.tuple #[])/\Yz B b (tP b) l w'/\Below B w w':=by
 obtain⟨j,hj,c⟩:=Option.map_eq_some_iff.1 Za
 rcases h with h|h
 .have h0:=h.cell0;have a:=h.shape;have d:=h.frozen0;go_enter func177,ntmps177;go_wp2;rw[Lib.run_to_unsafe w ⟨b,0,none⟩ underlying205 underlying309 hj (by rw[c];decide) a (Nat.zero_lt_succ 1)];simp only[Result.andThen];rw[Oper.upon_value];go_wp2;rw[run_callFunc_extern func221 (by kernel_rfl) (by kernel_rfl) (by kernel_rfl) (e:=Extern.AbiNoEscape.same) (by kernel_rfl)];rw[Lib.run_noEscape];simp only[Result.andThen];rw[Oper.upon_value];go_wp2;rw[Lib.run_from_unsafe w ⟨b,0,none⟩ underlying309 underlying205 hj a (by kernel_rfl)];simp only[Result.andThen];rw[Oper.upon_value];go_wp2;go_end0
  exact⟨rfl,h.used _,(Below.refl B w).setCell (p:=⟨b,0,none⟩) h.1 _⟩
 .have h0:=h.cell0;go_enter func177,ntmps177;go_wp2;rw[Lib.run_neq_ptr_same w _ underlying205 hj];go_wp2;go_end0
  exact⟨rfl,h,Below.refl B _⟩
theorem RM(B b:Nat)(l:List Value)(c:Int)(w:World)(h:ID B b l w)(E:l.length<=100000)(D:B<=w.heap.size):Calls prog 124 #[tP b,.int .u8 c] w fun e w'=>e=.returned .nilIface/\Yz B b (tP b) (l++[.int .u8 c]) w'/\Below B w w':=by
 obtain⟨i0,t,z,A,C⟩:=info_parts uV;have r:=aA (QD B b l w h);go_enter func124,ntmps124;go_wp2_with fail;refine r.o.mono ?_;rintro e w1 ⟨rfl,⟨m,v,hbk,i,o⟩,a⟩;have c0:w1.cell? ⟨b,0,none⟩=some (tP b):=by rw[Lib.cell_of_heap hbk];rfl
 have c1:w1.cell? ⟨b,1,none⟩=some v:=by rw[Lib.cell_of_heap hbk];rfl
 go_wp2_with (at_builtin;refine wpList_append_ownF _ rfl _ _ 83 rfl B 5 i0 (.int .u8 0) 1 1 underlying83 t z A C rfl qe _ _ _ rfl (i.alloc _) ⟨w1.heap.size,0,none⟩ 1 1 [.int .u8 c] rfl rfl ?c1 ?c2 ?c3 ?c4 ?c5 ?_)
 case c1=>
  intro j u hj
  match j,hj with
  |0,hj=>simp at hj;subst hj;simp[Addr.add]
 case c2=>intro u hu;simp at hu;subst hu;rfl
 case c3=>unfold maxLen;omega
 case c4=>omega
 case c5=>have:=a.size;simp;omega
 intro v' w2 hown' f _;have y:b<w1.heap.size:=by
  exact QDd
 have d:w2.heap[b]? =some (.cells #[tP b,v] 207 (0,0)):=by
  rw[f.block b (by simp;omega) (fun e=>o e.symm),Lib.alloc_old w1 _ b y];exact hbk
 have n:Below B w w2:=(a.alloc (qA a.size) _).grown f (by have:=a.size;simp;omega) (fun k x=>(i.lt k x).1);have s:=aA (Lib.BuilderAtF.put (T:=207) (e:=5) (v':=v') m d (bs':=l++[.int .u8 c]) (by simpa using hown') qe);have q:=aA n;have d1:w2.cell? ⟨b,1,none⟩=some v:=by rw[Lib.cell_of_heap d];rfl
 have f1:w2.frozen? ⟨b,1,none⟩=false:=Lib.frozen_of_heap d 1;obtain⟨g,cap,rfl⟩:∃g cap,v'=.slice (some ⟨g,0,none⟩) (l.length+1) cap:=by
  exact QDl
 clear n hown' f d hbk i o a;go_wp2;go_ret;exact⟨rfl,s.o,q.o.setCell (p:=⟨b,1,none⟩) m _⟩
theorem MB(B b:Nat)(l:List Value)(s:bY)(w:World)(h:ID B b l w)(D:l.length<=100000)(F:0<s.size)(E:s.size<=100000)(C:B<=w.heap.size):Calls prog 125 #[tP b,.string s] w fun e w'=>e=.returned (.tuple #[.int .i64 s.size,.nilIface])/\Yz B b (tP b) (l++Lib.strCells s) w'/\Below B w w':=by
 obtain⟨i0,r,y,z,A⟩:=info_parts uV;have o:=aA (QD B b l w h);go_enter func125,ntmps125;go_wp2_with fail;refine o.o.mono ?_;rintro e w1 ⟨rfl,⟨i,v,hbk,f,m⟩,a⟩;have c0:w1.cell? ⟨b,0,none⟩=some (tP b):=by rw[Lib.cell_of_heap hbk];rfl
 have c1:w1.cell? ⟨b,1,none⟩=some v:=by rw[Lib.cell_of_heap hbk];rfl
 go_wp2_with (at_builtin;refine Lib.wpList_append_own_stringF _ rfl _ _ 83 9 rfl B 5 i0 underlying83 underlying9 r y z A _ _ _ rfl f s rfl ?c3 ?c4 ?c5 ?_)
 case c3=>unfold maxLen;omega
 case c4=>omega
 case c5=>have:=a.size;omega
 intro v' w2 hown' d _;have x:b<w1.heap.size:=by
  exact QDd
 have c:w2.heap[b]? =some (.cells #[tP b,v] 207 (0,0)):=by
  rw[d.block b x (fun e=>m e.symm)];exact hbk
 have j:Below B w w2:=a.grown d (qA a.size) (fun k t=>(f.lt k t).1);have q:=aA (Lib.BuilderAtF.put (T:=207) (e:=5) (v':=v') i c (bs':=l++Lib.strCells s) (by rw[aL,Lib.strCells_length];exact hown') qe);have n:=aA j;have d1:w2.cell? ⟨b,1,none⟩=some v:=by rw[Lib.cell_of_heap c];rfl
 have f1:w2.frozen? ⟨b,1,none⟩=false:=Lib.frozen_of_heap c 1;obtain⟨g,cap,rfl⟩:∃g cap,v'=.slice (some ⟨g,0,none⟩) (l.length+s.size) cap:=by
  exact QDl
 clear j hown' d c hbk f m a;go_wp2;go_ret2
 exact⟨rfl,q.o,n.o.setCell (p:=⟨b,1,none⟩) i _⟩
theorem QCM{p:Prop}(h:p:=by
 rintro e w2 ⟨rfl,hb⟩;have HB2:=qB HB1 hb;clear hb;go_wp2;go_ret;exact⟨by rw[HE4.o];rfl,HB2.o⟩):p:=h
theorem Zb{p:Prop}(h:p:=by
 rintro e w2 ⟨rfl,hb⟩;have HB2:=qB HB1 hb;clear hb;go_wp2;go_ret;exact⟨by rw[HE2.o];rfl,HB2.o⟩):p:=h
theorem Th{p:Prop}(h:p:=by
 go_upto_region 8 with (fail)
 refine qJ 14 (by kernel_rfl) (by kernel_rfl) ?_;simp only[List.take_succ_cons,List.take_zero,List.drop_succ_cons,List.drop_zero]
 repeat still_step
 refine wpStill_nil ?_;go_wp2_with fail;refine HQW.o.mono ?_;rintro e w2 ⟨rfl,hi,hb⟩;have HI2:=aA (HQR.o w2 (.inr hi));have HB2:=aA (HB.o.trans (Ey.trans hb));clear hi hb HI HB HQW HQR;go_wp2;go_roundw
 case rel=>exact⟨k+1,qo,by go_num,HI2,HB2⟩
 case measure=>simp[intOf];omega):p:=h
def Ex:ByteArray:=⟨#[48,49,50,51,52,53,54,55,56,57,97,98,99,100,101,102]⟩
theorem Lk:∀k:Fin 16,Ex.extract k.val (k.val+1)=⟨#[JI k.val]⟩:=by decide +kernel
theorem EB(a b:lU):Lib.byteCells a++Lib.byteCells b=Lib.byteCells (a++b):=by unfold Lib.byteCells;rw[List.map_append]
theorem QE(l:lU):(Lib.byteCells l).length=l.length:=by unfold Lib.byteCells;rw[List.length_map]
def tH(l:lU):List UInt8:=34 ::l.flatMap uG
theorem AX(l:lU):(tH l).length<=1+3 * l.length:=by
 unfold tH;rw[List.length_cons];have h:(l.flatMap uG).length<=3 * l.length:=by
  induction l with
  |nil=>simp
  |cons c l a=>
   rw[List.flatMap_cons,aL,List.length_cons];have:(uG c).length<=3:=by unfold uG;split<;>simp
   omega
 omega
theorem QF(l:lU)(c:UInt8):tH (l++[c])=tH l++uG c:=by unfold tH;rw[List.flatMap_append,List.flatMap_cons,List.flatMap_nil,List.append_nil,List.cons_append]
theorem QG{c:UInt8}:fC c=true↔¬c.toNat<32/\¬126<c.toNat/\c.toNat≠34/\c.toNat≠92:=by
 unfold fC;simp only[Bool.and_eq_true,decide_eq_true_eq];omega
theorem Ll{s:bY}{k:Nat}(h:k<s.size):s.data.toList.take (k+1)=s.data.toList.take k++[s[k]]:=by
 rw[List.take_add_one,gE (by rw[Array.length_toList];exact h),Option.toList_some];rfl
theorem aAm:∀x:Fin 256,bits .and .u8 (x.val:Int) 15=((x.val % 16:Nat):Int):=by decide +kernel
theorem Lm:∀x:Fin 16,IntKind.u8.wrap ((x.val:Int)+1)=((x.val+1:Nat):Int):=by decide +kernel
theorem Ey{n:Nat}{w:World}:Below n w w.drew:=(Below.refl n w).drew
theorem Ez(s:bY)(R:s.size<=64)(w:World):Calls prog 75 #[.string s] w (lD (.string (bs (FF s.data.toList))) w):=by
 have y:Below w.heap.size w (w.alloc (.cells #[.pointer none,.slice none 0 0] 207)):=aB _ _;have z:ID w.heap.size w.heap.size (Lib.byteCells []) (w.alloc (.cells #[.pointer none,.slice none 0 0] 207)):= .inl ⟨lR _,.slice none 0 0,aK _ _ _ rfl,World.ownsRowF_of (World.ownsRow_nil _ _ _ _),by simp[Value.ownBlock]⟩;have o:=aA (fun (l:lU) (c:UInt8) (w1:World) (h:ID w.heap.size w.heap.size (Lib.byteCells l) w1) (Q:l.length<=1000) (hb:w.heap.size<=w1.heap.size)=>RM w.heap.size w.heap.size (Lib.byteCells l) (c.toNat:Int) w1 h (by rw[QE];omega) hb);have r:=aA z;have n:=aA y;unfold lD;clear z y;go_enter func75,ntmps75;go_wp2_with fail;refine(o.o [] 34 _ r.o qs n.o.size).mono ?_;rintro e w1 ⟨rfl,hi,hb⟩;have HI:=aA (Or.inr hi:ID w.heap.size w.heap.size (Lib.byteCells (tH [])) w1);have HB:=aA (n.o.trans hb);clear hi hb r n;go_wp2;go_loopw [9] (fun i wr=>∃(k:Nat),k<=s.size/\i=.int .i64 k/\Hid (ID w.heap.size w.heap.size (Lib.byteCells (tH (s.data.toList.take k))) wr)/\Hid (Below w.heap.size w wr)) (fun i _=>s.size - (intOf i).toNat)
 case atStart=>exact⟨0,qo,rfl,HI,HB⟩
 case round=>
  obtain⟨k,P,rfl,HI,HB⟩:=hrel;by_cases E:k<s.size
  .have O:(s[k].toNat:Int)<256:=qA (s[k].toNat_lt);obtain⟨c,d⟩:=xE (s[k]);have A:s.data.toList.take (k+1)=s.data.toList.take k++[c]:=by rw[d];exact Ll E
   by_cases hp:fC c=true
   .obtain⟨m,p,q,B⟩:¬c.toNat<32/\¬126<c.toNat/\c.toNat≠34/\c.toNat≠92:=QG.1 hp;have d1:decide ((c.toNat:Int)<32)=false:=dF qo;have d2:decide ((c.toNat:Int) > 126)=false:=dF qo;have d3:((c.toNat:Int)==34)=false:=bN.2 qo;have d4:((c.toNat:Int)==92)=false:=bN.2 qo;rw[d] at d1 d2 d3 d4;go_wp2_with fail;refine(o.o _ s[k] _ HI.o (by have:=AX (s.data.toList.take k);rw[List.length_take] at this;omega) HB.o.size).mono ?_;rintro e w2 ⟨rfl,hi,hb⟩;have HI2:Hid (ID w.heap.size w.heap.size (Lib.byteCells (tH (s.data.toList.take (k+1)))) w2):=aA (by rw[A,QF,<-EB];unfold uG;rw[iP hp,d];exact .inr hi);have HB2:=aA (HB.o.trans hb);clear hi hb HI HB;go_wp2;go_roundw
    case rel=>exact⟨k+1,qo,by go_num,HI2,HB2⟩
    case measure=>simp[intOf];omega
   .have F:s[k].toNat<32\/(¬s[k].toNat<32/\126<s[k].toNat)\/(¬s[k].toNat<32/\¬126<s[k].toNat/\s[k].toNat=34)\/(¬s[k].toNat<32/\¬126<s[k].toNat/\s[k].toNat≠34/\s[k].toNat=92):=by
     rw[QG,d] at hp;omega
    obtain⟨a,ha⟩:=xE (s[k].toNat / 16);obtain⟨b,hb⟩:=xE (s[k].toNat % 16);have S:(s[k].toNat:Int) / 16=(a:Int):=qo;have qb:bits .and .u8 (s[k].toNat:Int) 15=(b:Int):=by rw[hb];exact aAm ⟨s[k].toNat,s[k].toNat_lt⟩
    have v:a<16:=qo;have x:b<16:=qo;have G:=Lm ⟨a,v⟩;have H:=Lm ⟨b,x⟩;have L:(0:Int)<=(a:Int):=qo;have a2:(a:Int)<=(a:Int)+1:=qo;have a3:(a:Int)+1<=16:=qo;have a4:(0:Int)<=(a:Int)+1:=qo;have b2:(b:Int)<=(b:Int)+1:=qo;have M:(b:Int)+1<=16:=qo;have N:(0:Int)<=(b:Int)+1:=qo;obtain⟨X,f⟩:∃X:bY,X=⟨#[JI a]⟩:=⟨_,rfl⟩;obtain⟨Y,g⟩:∃Y:bY,Y=⟨#[JI b]⟩:=⟨_,rfl⟩;have I:Ex.extract a (a+1)=X:=(Lk ⟨a,v⟩).trans f.symm;have J:Ex.extract b (b+1)=Y:=(Lk ⟨b,x⟩).trans g.symm;unfold Ex at I J;have U:X.size=1:=by rw[f];rfl
    have V:Y.size=1:=by rw[g];rfl
    have j:(⟨#[92]⟩++X++Y:bY)=⟨#[92,JI a,JI b]⟩:=by rw[f,g];rfl
    have HQW:=aA (MB w.heap.size w.heap.size (Lib.byteCells (tH (s.data.toList.take k))) (⟨#[92]⟩++X++Y) wr.drew HI.o (by rw[QE];have:=AX (s.data.toList.take k);rw[List.length_take] at this;omega) (by rw[j];show 0<3;decide) (by rw[j];show 3<=100000;decide) HB.o.size);have HQR:Hid (∀w2:World,ID w.heap.size w.heap.size (Lib.byteCells (tH (s.data.toList.take k))++Lib.strCells (⟨#[92]⟩++X++Y)) w2->ID w.heap.size w.heap.size (Lib.byteCells (tH (s.data.toList.take (k+1)))) w2):=aA (fun w2 h=>by rw[A,QF,<-EB];rw[j] at h;unfold uG;rw[iN hp,d,<-ha,<-hb];exact h);have K:=aA (And.intro ha hb);clear f g j;clear ha hb;dsimp only at G H
    rcases F with m|⟨m,p⟩|⟨m,p,q⟩|⟨m,p,q,B⟩
    .have d1:decide ((s[k].toNat:Int)<32)=true:=dX qo;exact Th
    .have d1:decide ((s[k].toNat:Int)<32)=false:=dF qo;have d2:decide ((s[k].toNat:Int) > 126)=true:=dX qo;exact Th
    .have d1:decide ((s[k].toNat:Int)<32)=false:=dF qo;have d2:decide ((s[k].toNat:Int) > 126)=false:=dF qo;have d3:((s[k].toNat:Int)==34)=true:=bQ.2 qo;clear q;exact Th
    .have d1:decide ((s[k].toNat:Int)<32)=false:=dF qo;have d2:decide ((s[k].toNat:Int) > 126)=false:=dF qo;have d3:((s[k].toNat:Int)==34)=false:=bN.2 qo;have d4:((s[k].toNat:Int)==92)=true:=bQ.2 qo;clear B;exact Th
  .have D:k=s.size:=qo;rw[D,List.take_of_length_le (by rw[Array.length_toList];exact lR _)] at HI;go_wp2_with fail;refine(o.o _ 34 _ HI.o (by have:=AX s.data.toList;have h2:s.data.toList.length=s.size:=(by rw[Array.length_toList];rfl);omega) HB.o.size).mono ?_;rintro e w2 ⟨rfl,hi,hb⟩;have t:=aA (Builder_String_any_k w.heap.size w.heap.size (tH s.data.toList++[34]) w2 (by rw[<-EB];exact .inr hi) (HB.o.trans hb).size);have HB2:=aA (HB.o.trans hb);clear hi hb HI HB;go_wp2_with fail;refine t.o.mono ?_;rintro e T ⟨rfl,-,hb,-⟩;have C:=aA (HB2.o.trans hb);clear hb t HB2;go_wp2;go_ret;exact⟨rfl,C.o⟩
theorem Fa(B:Nat)(w:World)(k:Nat)(os:Array Obj)(h:B<=w.heap.size):Below B w (Go.Sort.grow (w.drewN k) os):=by
 have h1:Below B w (w.drewN k):=fJ (Below.refl B w) ⟨k,rfl⟩;have h2:w.heap.size<=(w.drewN k).heap.size:=h1.size;exact⟨h1.os,h1.tape,h1.output,by show _<=((w.drewN k).heap++os).size;rw[Array.size_append];omega,fun j hj=>by
  show ((w.drewN k).heap++os)[j]? =_;rw[Array.getElem?_append_left qo];exact h1.block j hj⟩
theorem AY(n:Int)(a:bK n)(w:World)(b:Gl w):Calls prog 33 #[.int .i64 n] w (lD (.string (bs (mI n))) w):=by
 refine(strconv_Itoa n a.1 a.2 w b.tab).mono ?_;rintro e w' ⟨rfl,k,os,rfl⟩;exact⟨rfl,Fa _ w k os (lR _)⟩
theorem Ax(b:Bool)(w:World):Calls prog 74 #[.bool b] w (lD (.string (bs (if b=true then fA "true" else fA "false"))) w):=by
 refine(strconv_FormatBool b w).mono ?_;rintro e w' ⟨rfl,rfl⟩;refine⟨?_,Below.refl _ _⟩
 cases b<;>rfl
theorem Qw{v:V3}(h:aT v=false):vH v=[]:=iP h
theorem Qx{k n:Int}{s:bY}(h:aT (k,n,s)=true):vH (k,n,s)=(if k=1 then (if n=1 then fA "true" else fA "false") else if k=4 then [64]++mI n else if k=5 then [35]++s.data.toList else if k=3 then FF s.data.toList else mI n):=by
 unfold vH;rw[iN (by rw[h];decide)]
theorem IE{n:Int}{s:bY}(h:aT (3,n,s)=true):s.size<=64:=by
 unfold aT at h;simp at h;exact h.2
theorem uH(n:Int)(b:bK n):(bs (mI n)).size<=100:=by
 have a:∀k u:Nat,u<10 ^ (k+1)->(Lib.decDigits u).length<=k+1:=by
  intro k
  induction k with
  |zero=>intro u hu;rw[Lib.decDigits_one qo];exact lR _
  |succ k c=>
   intro u hu;rw[Lib.decDigits];split
   .simp
   .rw[aL];have:=c (u / 10) (by rw[Nat.pow_succ] at hu;omega);simp only[List.length_cons,List.length_nil];omega
 have h0:=b.1;have h1:=b.2;have h2:(bs (mI n)).size=(mI n).length:=by unfold bs;exact List.size_toArray
 rw[h2];unfold mI Lib.itoa;split
 .have:=a 19 n.natAbs qo;rw[List.length_cons];omega
 .have:=a 19 n.toNat qo;omega
theorem Ln(v:V3)(x:cS v)(w:World)(C:Gl w):Calls prog 34 #[dD v] w (lD (.string (bs (vH v))) w):=by
 obtain⟨k,n,s⟩:=v;obtain⟨W0,i⟩:=xE (w.alloc (.cells #[.int .i64 k,.int .i64 n,.string s] 55));have r:Below w.heap.size w W0:=by rw[i];exact aB _ _
 have R:Hid (W0.heap[w.heap.size]? =some (.cells #[.int .i64 k,.int .i64 n,.string s] 55 (0,0))):=aA (by rw[i];exact aK _ _ _ rfl);obtain⟨O,t⟩:=xE (vH (k,n,s));rw[<-t];obtain⟨A,J,f,z,I,N⟩:=hD6 (nH k n s (by have:s.size<=cQ:=x.2.2;unfold cQ at this;unfold maxLen;omega) W0) (C.on r) x t r i;unfold lD dD;clear r i C x t;obtain⟨⟨E,F,G⟩,-⟩:=cE R.o;have H:=aD R.o;go_enter func34,ntmps34;go_upto_region 1 with (fail)
 rw[<-N.o];go_wp2_with fail;refine A.o.mono ?_;rintro e w1 ⟨rfl,hb⟩;obtain⟨HB1,B,y⟩:=aY (aC I.o hb) (aE R.o hb) (J.o.on hb);clear E F G H hb A;obtain⟨⟨E,F,G⟩,-⟩:=cE B.o;have H:=aD B.o
 cases g:aT (k,n,s)
 .have c:=aA (z.o.trans (Qw g));go_wp2;go_ret;exact⟨by rw[c.o];rfl,HB1.o⟩
 .have c:=aA (z.o.trans (Qx g));have M:=aA g;clear g;by_cases j:k=1
  .have b:=aA (c.o.trans (iP j));subst j;by_cases a:n=1
   .have d1:(n==(1:Int))=true:=bQ.2 a;have p:=aA (Ax true w1);have HE2:=aA (b.o.trans (iP a));clear a;go_wp2_with fail;refine p.o.mono ?_;exact Zb
   .have d1:(n==(1:Int))=false:=bN.2 a;have p:=aA (Ax false w1);have HE2:=aA (b.o.trans (iN a));clear a;go_wp2_with fail;refine p.o.mono ?_;exact Zb
  .have c1:(k==(1:Int))=false:=bN.2 j;have b:=aA (c.o.trans (iN j));by_cases m:k=4
   .have HE2:=aA (b.o.trans (iP m));subst m;have q:=aA (AY n f.o.2.1 w1 y.o);have D:=uH n f.o.2.1;generalize mI n=L at *;go_wp2_with fail;refine q.o.mono ?_;exact Zb
   .have c4:(k==(4:Int))=false:=bN.2 m;have HE2:=aA (b.o.trans (iN m));by_cases o:k=5
    .have d:=aA (HE2.o.trans (iP o));subst o;have D:s.size<=cQ:=f.o.2.2;unfold cQ at D;go_wp2;go_ret;exact⟨by rw[d.o];rfl,HB1.o⟩
    .have c5:(k==(5:Int))=false:=bN.2 o;have d:=aA (HE2.o.trans (iN o));by_cases l:k=3
     .have HE4:=aA (d.o.trans (iP l));subst l;have K:=aA (Ez s (IE M.o) w1);go_wp2_with fail;refine K.o.mono ?_;exact QCM
     .have c3:(k==(3:Int))=false:=bN.2 l;have HE4:=aA (d.o.trans (iN l));have q:=aA (AY n f.o.2.1 w1 y.o);go_wp2_with fail;refine q.o.mono ?_;exact QCM
theorem QAl{p:Prop}(h:p:=by
 by_cases z5:0<r.at_
 .have HN2:=aA (HN.o.trans (iP ⟨z0,z5⟩));have d5:decide (r.at_ > (0:Int))=true:=dX z5;have p0:∀p:In (BH W0),p.w.cell? ⟨w.heap.size,0,none⟩=some (.int .i64 r.err):=fun p=>(p.h.cell zr).trans r0
  have p7:∀p:In (BH W0),p.w.cell? ⟨w.heap.size,7,none⟩=some (.int .i64 r.at_):=fun p=>(p.h.cell zr).trans r7
  have HX:=aA (fun (n:Int) (hn:bK n) w' (hb':Below W0.heap.size W0 w')=>(AY n hn w' (HG.o.on hb')).mono fun e w2 (h:lD _ w' e w2)=>(⟨h.1,aC hb' h.2⟩:e=_/\Below W0.heap.size W0 w2));have hs1:=uH r.err HE.o;have hs2:=uH r.at_ HA.o;have HX1:=aA (HX.o r.err HE.o);have HX2:=aA (HX.o r.at_ HA.o);obtain⟨L1,hL1⟩:=xE (mI r.err);obtain⟨L2,hL2⟩:=xE (mI r.at_);rw[<-hL1,<-hL2] at HN2;rw[<-hL1] at hs1 HX1;rw[<-hL2] at hs2 HX2;obtain⟨l1,hl1⟩:=xE (bs L1);obtain⟨l2,hl2⟩:=xE (bs L2);rw[<-hl1] at hs1 HX1;rw[<-hl2] at hs2 HX2;have HL1:=aA hl1;have HL2:=aA hl2;clear hL1 hL2 z0 z5 HX hl1 hl2;go_upto_region 4 with (fail)
  refine CA (C:=BH W0) (by kernel_rfl) (by kernel_rfl) (SI W0) ?_
  repeat (go_big_quiet_step (first|exact in_call fun w' hb=>HX1.o w' hb|exact in_call fun w' hb=>HX2.o w' hb))
  refine wpQuiet_nil ?_;intro w2 hb2;have HB2:=qB HB0 (show Below W0.heap.size W0 w2 from hb2);clear hb2;go_wp2;go_ret;exact⟨by rw[HN2.o,HL1.o,HL2.o];rfl,HB2.o⟩
 .have HN2:=aA (HN.o.trans ((iN (fun h=>z5 h.2)).trans (iP z0)));have d5:decide (r.at_ > (0:Int))=false:=dF z5;have HX:=aA (AY r.err HE.o W0 HG.o);have hs1:=uH r.err HE.o;generalize mI r.err=L1 at *;clear z0 z5;go_wp2_with fail;refine HX.o.mono ?_;rintro e w2 ⟨rfl,hb⟩;have HB2:=qB HB0 hb;clear hb;go_wp2;go_ret;exact⟨by rw[HN2.o];rfl,HB2.o⟩):p:=h
theorem Lo(m:Mk):Cm.bU m=bs (FE m):=by
 unfold Cm.bU FE;split
 .rfl
 split
 .rfl
 split
 .rfl
 split
 .rfl
 split
 .rfl
 split
 .rfl
 rfl
theorem Lp(m:Mk):(bs (FE m)).size<=100:=by
 unfold FE
 repeat (split;(· decide))
 decide
theorem Lq(v:V3)(a:cS v):(bs (vH v)).size<=1000100:=by
 have b:=uH v.2.1 a.2.1;rw[cH] at b ⊢;have e:v.2.2.data.toList.length<=1000000:=by rw[Array.length_toList];exact a.2.2
 unfold vH;split
 .simp
 rename_i c;split
 .split<;>decide
 split
 .rw[aL];simp only[List.length_cons,List.length_nil];omega
 split
 .rw[aL];simp only[List.length_cons,List.length_nil];omega
 split
 .rename_i h3;have h64:v.2.2.size<=64:=IE (n:=v.2.1) (s:=v.2.2) (by
   have h4:v=(3,v.2.1,v.2.2):=by rw[<-h3]
   rw[<-h4];simpa using c)
  have d:=AX v.2.2.data.toList;have h5:v.2.2.data.toList.length=v.2.2.size:=by rw[Array.length_toList];rfl
  have h6:FF v.2.2.data.toList=tH v.2.2.data.toList++[34]:=rfl;rw[h6,aL];simp only[List.length_cons,List.length_nil];omega
 .omega
theorem Fb(r:Rpl)(hm:Cm.QP r.mark)(A:cS r.val)(he:bK r.err)(ha:bK r.at_)(w:World)(z:Gl w):Calls prog 16 #[.agg (eV r)] w (lD (.string (FG r)) w):=by
 obtain⟨O,q⟩:=xE (Ar r);unfold FG;rw[<-q];obtain⟨k,B,v,HE,HA⟩:=gC q (Cm.AG r.mark hm) A he ha;obtain⟨W0,c⟩:=xE (w.alloc (.cells (eV r) 78));have o:Below w.heap.size w W0:=by rw[c];exact aB _ _
 have R:Hid (W0.heap[w.heap.size]? =some (.cells (eV r) 78 (0,0))):=aA (by rw[c];exact aK _ _ _ rfl);have HB0:=aA o;have HG:=aA (z.on o);unfold eV at c R ⊢;have D:=aA c;unfold lD;clear o c q A he ha z;obtain⟨⟨r0,I,J,K,M,N,P,r7⟩,-⟩:=nN R.o;have zr:=aD R.o;obtain⟨y,s⟩:∃b,decide (r.mark=((4,0):Mk))=b:=⟨_,rfl⟩;have G:((FloatKind.f64.format.order (Cm.qb r.mark.1) 4607182418800017408==some .eq)&&(FloatKind.f64.format.order (Cm.qb r.mark.2) 0==some .eq))=y:=(Cm.iU r.mark.1 r.mark.2 4 0 hm qe qe).trans ((sD r.mark (4,0)).trans s);have t:=aA s;clear s hm;go_enter func16,ntmps16;go_upto_region 1 with (fail)
 rw[<-D.o];by_cases h12:r.err=12
 .have d12:(r.err==(12:Int))=true:=bQ.2 h12;have z0:r.err≠0:=qo;have m:(r.err != (0:Int))=true:=bne_iff_ne.2 z0
  cases y
  .have HN:=aA (k.o.trans (iP ⟨h12,of_decide_eq_false t.o⟩));have H:=Lp r.mark;have l:=aA (B.o W0);rw[Lo r.mark] at l;clear h12 z0 m;generalize FE r.mark=L at *;unfold Cm.mk at l;go_wp2_with fail;refine l.o.mono ?_;rintro e w1 ⟨rfl,rfl⟩;go_wp2;go_ret;exact⟨by rw[HN.o];rfl,HB0.o⟩
  .have HN:=aA (k.o.trans (iN (fun h=>h.2 (of_decide_eq_true t.o))));clear h12;exact QAl
 .have d12:(r.err==(12:Int))=false:=bN.2 h12;have HN:=aA (k.o.trans (iN (fun h=>h12 h.1)));clear h12;by_cases z0:r.err=0
  .have m:(r.err != (0:Int))=false:=by rw[z0];rfl
   have HN2:=aA (HN.o.trans ((iN (fun h=>h.1 z0)).trans (iN (fun h=>h z0))));clear z0;by_cases g:r.aDk=true
   .have d:=aA (HN2.o.trans (iP g));go_wp2;go_ret;exact⟨by rw[d.o];rfl,HB0.o⟩
   .have d:=aA (HN2.o.trans (iN g));have dg:r.aDk=false:=by simpa using g
    clear g;by_cases i:r.hidden=true
    .have f:=aA (d.o.trans (iP i));go_wp2;go_ret;exact⟨by rw[f.o];rfl,HB0.o⟩
    .have f:=aA (d.o.trans (iN i));have F:r.hidden=false:=by simpa using i
     clear i;by_cases a:r.val=bD
     .have j:=aA (f.o.trans (iN (fun h=>h a)));have E:∀w,Sem.run prog (binOp .neq 55 (.agg #[.int .i64 r.val.1,.int .i64 r.val.2.1,.string r.val.2.2]) (.agg #[.int .i64 0,.int .i64 0,.string ⟨#[]⟩])) w=.ok (.bool false) w:=fun w=>(yR r.val bD w).trans (by rw[dX a];rfl)
      clear a;go_wp2;go_ret;exact⟨by rw[j.o];rfl,HB0.o⟩
     .have j:=aA (f.o.trans (iP a));have E:∀w,Sem.run prog (binOp .neq 55 (.agg #[.int .i64 r.val.1,.int .i64 r.val.2.1,.string r.val.2.2]) (.agg #[.int .i64 0,.int .i64 0,.string ⟨#[]⟩])) w=.ok (.bool true) w:=fun w=>(yR r.val bD w).trans (by rw[dF a];rfl)
      have HX:=aA (Ln r.val v.o W0 HG.o);have hs1:=Lq r.val v.o;unfold dD at HX;clear a;generalize vH r.val=L at *;go_wp2_with fail;refine HX.o.mono ?_;rintro e w2 ⟨rfl,hb⟩;have HB2:=qB HB0 hb;clear hb;go_wp2;go_ret;exact⟨by rw[j.o];rfl,HB2.o⟩
  .have m:(r.err != (0:Int))=true:=bne_iff_ne.2 z0;exact QAl
structure eG (p:PS):Prop where
 b0:0<=p.bad
 b1:p.bad<=100
 q0:0<=p.place
 q1:p.place<=1000000
section
variable {L:List Tok} (T:Toks L)
theorem WL{e q:Int}{p:PS}(h:eG p)(h0:0<=e)(h1:e<=100)(h2:0<=q)(h3:q<=1000000):eG (eP e q p):=by
 unfold eP;split
 .exact⟨h0,h1,h2,h3⟩
 .exact h
include T
theorem Wa(p:PS):0<=(aU L p).at_/\(aU L p).at_<=4096:=by
 unfold aU
 rcases h:L[p.at_]? with _|t
 .exact⟨qe,qe⟩
 .exact T.place t (List.mem_of_getElem? h)
theorem AZ{e:Int}(r:PS){p:PS}(h:eG p)(h0:0<=e)(h1:e<=100):eG (eP e (aU L r).at_ p):=by
 have:=Wa T r;exact WL h h0 h1 this.1 qo
theorem pF{p:PS}(h:eG p):eG (dL L p):=AZ T p h qe qe
theorem tI(b:Bool){p:PS}(h:eG p):eG (cR L b p):=by
 unfold cR;split
 .exact AZ T p h qe qe
 .exact h
omit T in
theorem mZ{p:PS}{n:Nat}(h:eG p):eG {p with at_:=n}:=⟨h.b0,h.b1,h.q0,h.q1⟩
omit T in
theorem Wb(s:bY){p:PS}(h:eG p):eG (kJ L s p).2:=by
 unfold kJ;split
 .exact mZ h
 .exact h
theorem pP(s:bY){p:PS}(h:eG p):eG (eH L s p):=by
 unfold eH;split
 .exact mZ h
 .exact pF T h
theorem yX{p:PS}(h:eG p):eG (bU L p).2:=by
 unfold bU;dsimp only;by_cases a:(aU L p).aCR≠1
 .rw[iP a];split
  .exact pF T h
  .exact mZ (pF T h)
 .rw[iN a];split
  .exact h
  .exact mZ h
theorem pG(words:List ByteArray){p:PS}(h:eG p):eG (aZ L words p).2:=by
 unfold aZ;dsimp only;split
 .exact mZ h
 .exact pF T h
theorem Ay{p:PS}(h:eG p):eG (cD L p).2:=by
 unfold cD;dsimp only;exact Wb _ (yX T (pP T _ (pG T _ h)))
theorem QH{p:PS}(h:eG p):eG (eR L p).2:=by
 unfold eR;dsimp only
 repeat (split;(· exact h))
 exact pF T h
theorem WM{p:PS}(h:eG p):eG (dA L p).2:=by
 rw[zI];split
 .exact QH T h
 .exact mZ (QH T h)
theorem aAn{p:PS}(h:eG p):eG (sJ L p).2:=by
 unfold sJ
 repeat (split;(· exact mZ h))
 exact pF T h
theorem WN{p:PS}(h:eG p):eG (eC L p).2:=by
 unfold eC;dsimp only;exact WM T (aAn T (Ay T h))
theorem yY{α:Type}{one:PS->α×PS}(a:∀{p:PS},eG p->eG (one p).2)(sep:bY):∀(f:Nat) (l:List α) {p:PS},eG p->eG (jS L one sep f l p).2
 |0,l,p,h=>h
 |f+1,l,p,h=>by
  unfold jS;split
  .exact yY a sep f _ (tI T _ (a (mZ h)))
  .exact h
theorem Lr{p:PS}(h:eG p):eG (iZ L p).2:=by
 unfold iZ;dsimp only;exact yY T (WN T) _ _ _ (WN T h)
theorem Ls{p:PS}(h:eG p):eG (mB L p).2:=by
 unfold mB;dsimp only;exact pP T _ (yY T (Lr T) _ _ _ (Lr T (pP T _ h)))
theorem EC{p:PS}(h:eG p):eG (bV L p).2:=by
 unfold bV;split
 .dsimp only;exact yY T (Ls T) _ _ _ (Ls T (mZ h))
 .exact h
theorem Wc{p:PS}(h:eG p):eG (tJ L p).2:=by
 unfold tJ;dsimp only;exact yX T (pG T _ (pG T _ h))
theorem BF{p:PS}(h:eG p):eG (gL L p).2:=yY T (Wc T) _ _ _ h
theorem Az:∀(f:Nat) (l:List No) {p:PS},eG p->eG (eW L f l p).2
 |0,l,p,h=>by unfold eW;exact h
 |f+1,l,p,h=>by
  have c:∀{l:List No} {p:PS} (must:Bool),eG p->eG (dE L f (l,p) must).2:=by
   intro l p must h;unfold dE;dsimp only;split
   .exact h
   .have h1:=Az f l h;split
    .exact AZ T _ h1 qe qe
    .exact h1
  have b:∀(ms:List Bool) {l:List No} {p:PS},eG p->eG (ms.foldl (dE L f) (l,p)).2:=by
   intro ms
   induction ms with
   |nil=>intro l p h;exact h
   |cons m ms d=>
    intro l p h;have h1:=c (l:=l) m h;exact d h1
  unfold eW;dsimp only;by_cases a:cL L (str "(") p=true
  .rw[iP a];exact tI T _ (pP T _ (b (fL (2+(aZ L eB {p with at_:=p.at_+1}).1)) (l:=l) (pG T _ (mZ h))))
  .rw[iN a];split
   .exact tI T _ (Ay T h)
   .exact tI T _ (WM T h)
theorem Fc(l:List No)(must:Bool){p:PS}(h:eG p):eG (jB L l must p).2:=by
 unfold jB;dsimp only;have h1:=Az T L.length l h;split
 .exact AZ T _ h1 qe qe
 .exact h1
theorem Wd(deny:Bool){p:PS}(h:eG p):eG (kK L deny p).2:=by
 unfold kK;dsimp only;refine pP T _ (BF T ?_);have h2:=EC T (yX T h);split
 .exact Fc T _ _ (mZ h2)
 .exact h2
theorem NO:∀(f:Nat) (l:List Ru) {p:PS},eG p->eG (iJ L f l p).2
 |0,l,p,h=>by unfold iJ;exact h
 |f+1,l,p,h=>by
  unfold iJ;split
  .dsimp only;have h1:=tI T (decide (l.length=16)||decide (p.aCT=64)) h;split
   .exact h1
   .exact NO f _ (Wd T _ ⟨h1.b0,h1.b1,h1.q0,h1.q1⟩)
  .exact h
theorem NP{one:PS->Po×PS}(a:∀{p:PS},eG p->eG (one p).2)(deep:Bool):∀(f:Nat) (l:List Po) {p:PS},eG p->eG (gM L one deep f l p).2
 |0,l,p,h=>by unfold gM;exact h
 |f+1,l,p,h=>by
  unfold gM;split
  .dsimp only;have h1:=tI T (decide (l.length=16)||deep) h;split
   .exact h1
   .exact NP a deep f _ (a h1)
  .exact h
theorem Lt:∀(n:Nat) {p:PS},eG p->eG (cO L n p).2:=by
 intro n
 induction n with
 |zero=>
  intro p h;unfold cO;dsimp only;refine BF T (pP T _ ?_);have h5:=pP T qX (EC T (pG T dH (yX T (pG T [str "policy",str "set"] h))));split
  .exact NP T (one:=fun q=>(mA,q)) (fun h=>h) true L.length [] h5
  .exact NO T L.length [] h5
 |succ n a=>
  intro p h;unfold cO;dsimp only;refine BF T (pP T _ ?_);have h5:=pP T qX (EC T (pG T dH (yX T (pG T [str "policy",str "set"] h))));split
  .exact NP T a false L.length [] h5
  .exact NO T L.length [] h5
end
def Sm(x:List Tok×Int×Int):Prop:=0<=x.2.1/\x.2.1<=100/\0<=x.2.2/\x.2.2<=1000000
theorem Lu{n:Nat}(h:n<=10000):Sm ([],5,(n:Int)):=⟨by show (0:Int)<=5;decide,by show (5:Int)<=100;decide,by show (0:Int)<=(n:Int);omega,by show (n:Int)<=1000000;omega⟩
theorem Zc(l:List Tok):Sm (l,0,0):=⟨by show (0:Int)<=0;decide,by show (0:Int)<=100;decide,by show (0:Int)<=0;decide,by show (0:Int)<=1000000;decide⟩
theorem JM:∀(f:Nat) (l:lU) (n:Nat) (out:List Tok),n+l.length<=4096->Sm (jH f l n out)
 |0,l,n,out,h=>Lu qo
 |f+1,[],n,out,h=>Zc _
 |f+1,c::r,n,out,h=>by
  have a:=(pZ (c::r) qo).le;rw[List.length_cons] at h a;unfold jH;dsimp only;split
  .exact JM f r (n+1) out qo
  .split
   .exact Lu qo
   .refine JM f _ _ _ ?_;rw[List.length_drop,List.length_cons];omega
theorem Zd(l:lU):Sm (jL l):=by
 unfold jL;split
 .exact⟨by show (0:Int)<=6;decide,by show (6:Int)<=100;decide,by show (0:Int)<=4096;decide,by show (4096:Int)<=1000000;decide⟩
 .exact JM _ _ _ _ qo
theorem Ze{l:List Tok}(T:Toks l)(S:bY)(b:S.size<=1000000)(X:Po×PS)(a:eG X.2):eG (wL S X.1 (Ag l X.2)):=by
 have h2:eG (Ag l X.2):=by
  unfold Ag;split
  .exact pF T a
  .exact a
 unfold wL;split
 .exact WL h2 qe qe qo qo
 .exact h2
theorem Zf(P:Po){p:PS}(h:eG p):(0<=(uP P p).2.1/\(uP P p).2.1<=100)/\0<=(uP P p).2.2/\(uP P p).2.2<=1000000:=by
 unfold uP;split
 .exact⟨⟨h.b0,h.b1⟩,h.q0,h.q1⟩
 .exact⟨⟨Int.le_refl _,by show (0:Int)<=100;decide⟩,Int.le_refl _,by show (0:Int)<=1000000;decide⟩
theorem WO(S:bY)(c:S.size<=1000000):(0<=(fD S).2.1/\(fD S).2.1<=100)/\0<=(fD S).2.2/\(fD S).2.2<=1000000:=by
 have h:=Zd S.data.toList;have b:=SN (l:=S.data.toList);obtain⟨x,a⟩:=xE (jL S.data.toList);rw[<-a] at h b;obtain⟨l,e,q⟩:=x;by_cases he:e=0
 .subst he;have T:=(b rfl).1;rw[PK a.symm];exact Zf _ (Ze T S c _ (Lt T 3 ⟨qe,qe,qe,qe⟩))
 .rw[VG a.symm he];exact⟨⟨h.1,h.2.1⟩,h.2.2.1,h.2.2.2⟩
structure NQ (r:Rpl):Prop where
 mark:Cm.QP r.mark
 val:cS r.val
 err:bK r.err
 at_:bK r.at_
theorem xO:cS bD:=⟨by unfold bD bK;simp,by unfold bD bK;simp,Nat.zero_le _⟩
theorem Fe{w:World}{ok:nP}{s:Sto}{vc vr vn vo vt vu vk vb:Value}{N:bY}{c:cF}(h:eZ w ok s vc vr vn vo vt vu vk vb)(a:eF s N=some c)(F:bY):cS (gI c F):=by
 rcases EU s N with ⟨e,_⟩|⟨k,n,_,e⟩
 .rw[e] at a;cases a
 .rw[e] at a;injection a with a;subst a;have g:=h.aCQ;obtain⟨o,p,rfl,_⟩:=g.slice;obtain⟨b,off,r,_,_,_,⟨v,x,_,m⟩,_⟩:=aH.at dM g n qe;have i:=m.2.2.2.1;obtain⟨q,t,rfl,_⟩:=i.slice;unfold gI
  rcases d:s.aCQ[k].aCW.find? (fun f=>decide (f.1=F)) with _|f
  .rw[d];exact xO
  .rw[d];obtain⟨j,hj,he⟩:=List.getElem_of_mem (List.mem_of_find?_eq_some d);obtain⟨_,_,_,_,_,_,⟨_,l⟩,_⟩:=aH.at bL i hj qe;rw[he] at l;exact l.2
theorem YU(s:Sto)(o:Op):0<=dR s o/\dR s o<=100:=by
 unfold dR iH iS
 repeat' split
 all_goals exact⟨qe,qe⟩
theorem Lv(g:List Gv)(p:Po):0<=(iF g p).2/\(iF g p).2<=1:=by
 unfold iF rL
 repeat' split
 all_goals first|exact⟨qe,qe⟩|exact⟨Int.le_refl _,by show (0:Int)<=1;decide⟩
theorem qV{n:Int}(h0:0<=n)(h1:n<=1000000):bK n:=by unfold bK;omega
theorem WQ:bK 0:=qV (Int.le_refl _) qe
theorem We{c:Prop}[Decidable c]{x y:Sto×Rpl×Option Deci×Int}(a:NQ x.2.1)(b:NQ y.2.1):NQ (if c then x else y).2.1:=by
 split
 .exact a
 .exact b
theorem NR{e q:Int}(he:bK e)(a:bK q):NQ {qM with err:=e,at_:=q}:=⟨⟨Nat.zero_le _,Nat.zero_le _⟩,xO,he,a⟩
theorem Qy{w:World}{ok:nP}{s:Sto}{vc vr vn vo vt vu vk vb:Value}(h:eZ w ok s vc vr vn vo vt vu vk vb)(o:Op)(g:o.text.size<=1000000):NQ (cY s o).2.1:=by
 have i:=YU s o;have hp:=WO o.text g;have j:=Lv (pU s o) s.aCS;have h1:bK (oL s o).1/\bK (oL s o).2:=by
  unfold oL;split
  .exact⟨qV hp.1.1 qo,qV hp.2.1 hp.2.2⟩
  .exact⟨qV i.1 qo,WQ⟩
 by_cases a:(oL s o).1≠0
 .rw[LS a];exact NR h1.1 h1.2
 .have b:(oL s o).1=0:=by simpa using a
  by_cases d:(iF (pU s o) s.aCS).2≠0
  .rw[LU b d];exact NR (qV j.1 qo) h1.2
  .rw[LV b rfl (by simpa using d) rfl rfl rfl rfl rfl];refine We (NR (e:=6) (qV qe qe) h1.2) ?_
   .refine⟨(vG _ _).1,?_,?_,WQ⟩
    .unfold nX;dsimp only;split
     .rcases f:eF s o.aCX with _|c
      .exact xO
      .exact Fe h f o.aDc
     .exact xO
    .unfold nX;dsimp only;split
     .exact WQ
     .exact qV qe qe
end Go.Proofs.YtbinmcabjnoliaaGreatDoor
