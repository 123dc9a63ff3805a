/- Lemmas. -/
import Derived.Lib.FrozenHead2
import Derived.Lib.OthersKept
import Derived.Test.YtheabjeppmdmiaaGreatDoorMbp
namespace Go.Proofs.YtheabjeppmdmiaaGreatDoor
open Go.RowKit
set_option linter.unusedVariables false
set_option linter.unusedSimpArgs false
set_option maxHeartbeats 16000000
open _root_.Go.Proofs.Tryz
set_option maxRecDepth 20000
theorem QDm{p:Prop}(h:p:=by
 rcases hown'.2 with ⟨_,h0⟩|⟨g,cap,cur,fz,hv,_⟩
 .omega
 .exact⟨g,cap,hv⟩):p:=h
theorem QDe{p:Prop}(h:p:=by
 rcases Nat.lt_or_ge b w1.heap.size with h'|h'
 .exact h'
 .simp[Array.getElem?_eq_none h'] at hbk):p:=h
abbrev BuA(B b:Nat)(p:Value)(l:List Value)(w:World):Prop:=Lib.BuilderAtF 237 5 B b p l w
abbrev IU(B b:Nat)(l:List Value)(w:World):Prop:=Lib.IsBuilderF 237 5 B b l w
abbrev tW(b:Nat):Value:= .pointer (some ⟨b,0,none⟩)
theorem aAu:(prog.info? 237).map (·.size)=some 2:=by kernel_rfl
theorem RI(B b:Nat)(l:List Value)(w:World)(h:IU B b l w):Calls prog 201 #[tW b] w fun e w'=>e=.returned (.tuple #[])/\BuA B b (tW b) l w'/\Below B w w':=by
 obtain⟨j,hj,c⟩:=Option.map_eq_some_iff.1 aAu
 rcases h with h|h
 .have h0:=h.cell0;have a:=h.shape;have d:=h.frozen0;go_enter func201,ntmps201;go_wp2;rw[Lib.run_to_unsafe w ⟨b,0,none⟩ underlying235 underlying329 hj (by rw[c];decide) a (Nat.zero_lt_succ 1)];simp only[Result.andThen];rw[Oper.upon_value];go_wp2;rw[run_callFunc_extern func237 (by kernel_rfl) (by kernel_rfl) (by kernel_rfl) (e:=Extern.AbiNoEscape.same) (by kernel_rfl)];rw[Lib.run_noEscape];simp only[Result.andThen];rw[Oper.upon_value];go_wp2;rw[Lib.run_from_unsafe w ⟨b,0,none⟩ underlying329 underlying235 hj a (by kernel_rfl)];simp only[Result.andThen];rw[Oper.upon_value];go_wp2;go_end0
  exact⟨rfl,h.used _,(Below.refl B w).setCell (p:=⟨b,0,none⟩) h.1 _⟩
 .have h0:=h.cell0;go_enter func201,ntmps201;go_wp2;rw[Lib.run_neq_ptr_same w _ underlying235 hj];go_wp2;go_end0
  exact⟨rfl,h,Below.refl B _⟩
theorem SO(B b:Nat)(l:List Value)(c:Int)(w:World)(h:IU B b l w)(E:l.length<=100000)(D:B<=w.heap.size):Calls prog 152 #[tW b,.int .u8 c] w fun e w'=>e=.returned .nilIface/\BuA B b (tW b) (l++[.int .u8 c]) w'/\Below B w w':=by
 obtain⟨i0,t,z,A,C⟩:=info_parts vC;have r:=aA (RI B b l w h);go_enter func152,ntmps152;go_wp2_with fail;refine r.o.mono ?_;rintro e w1 ⟨rfl,⟨m,v,hbk,i,o⟩,a⟩;have c0:w1.cell? ⟨b,0,none⟩=some (tW b):=by rw[Lib.cell_of_heap hbk];rfl
 have c1:w1.cell? ⟨b,1,none⟩=some v:=by rw[Lib.cell_of_heap hbk];rfl
 go_wp2_with (at_builtin;refine wpList_append_ownF _ rfl _ _ 75 rfl B 5 i0 (.int .u8 0) 1 1 underlying75 t z A C rfl qe _ _ _ rfl (i.alloc _) ⟨w1.heap.size,0,none⟩ 1 1 [.int .u8 c] rfl rfl ?c1 ?c2 ?c3 ?c4 ?c5 ?_)
 case c1=>
  intro j u hj
  match j,hj with
  |0,hj=>simp at hj;subst hj;simp[Addr.add]
 case c2=>intro u hu;simp at hu;subst hu;rfl
 case c3=>unfold maxLen;omega
 case c4=>omega
 case c5=>have:=a.size;simp;omega
 intro v' w2 hown' f _;have y:b<w1.heap.size:=by
  exact QDe
 have d:w2.heap[b]? =some (.cells #[tW b,v] 237 (0,0)):=by
  rw[f.block b (by simp;omega) (fun e=>o e.symm),Lib.alloc_old w1 _ b y];exact hbk
 have n:Below B w w2:=(a.alloc (qA a.size) _).grown f (by have:=a.size;simp;omega) (fun k x=>(i.lt k x).1);have s:=aA (Lib.BuilderAtF.put (T:=237) (e:=5) (v':=v') m d (bs':=l++[.int .u8 c]) (by simpa using hown') qe);have q:=aA n;have d1:w2.cell? ⟨b,1,none⟩=some v:=by rw[Lib.cell_of_heap d];rfl
 have f1:w2.frozen? ⟨b,1,none⟩=false:=Lib.frozen_of_heap d 1;obtain⟨g,cap,rfl⟩:∃g cap,v'=.slice (some ⟨g,0,none⟩) (l.length+1) cap:=by
  exact QDm
 clear n hown' f d hbk i o a;go_wp2;go_ret;exact⟨rfl,s.o,q.o.setCell (p:=⟨b,1,none⟩) m _⟩
theorem MS(B b:Nat)(l:List Value)(s:bY)(w:World)(h:IU B b l w)(D:l.length<=100000)(F:0<s.size)(E:s.size<=100000)(C:B<=w.heap.size):Calls prog 153 #[tW b,.string s] w fun e w'=>e=.returned (.tuple #[.int .i64 s.size,.nilIface])/\BuA B b (tW b) (l++Lib.strCells s) w'/\Below B w w':=by
 obtain⟨i0,r,y,z,A⟩:=info_parts vC;have o:=aA (RI B b l w h);go_enter func153,ntmps153;go_wp2_with fail;refine o.o.mono ?_;rintro e w1 ⟨rfl,⟨i,v,hbk,f,m⟩,a⟩;have c0:w1.cell? ⟨b,0,none⟩=some (tW b):=by rw[Lib.cell_of_heap hbk];rfl
 have c1:w1.cell? ⟨b,1,none⟩=some v:=by rw[Lib.cell_of_heap hbk];rfl
 go_wp2_with (at_builtin;refine Lib.wpList_append_own_stringF _ rfl _ _ 75 9 rfl B 5 i0 underlying75 underlying9 r y z A _ _ _ rfl f s rfl ?c3 ?c4 ?c5 ?_)
 case c3=>unfold maxLen;omega
 case c4=>omega
 case c5=>have:=a.size;omega
 intro v' w2 hown' d _;have x:b<w1.heap.size:=by
  exact QDe
 have c:w2.heap[b]? =some (.cells #[tW b,v] 237 (0,0)):=by
  rw[d.block b x (fun e=>m e.symm)];exact hbk
 have j:Below B w w2:=a.grown d (qA a.size) (fun k t=>(f.lt k t).1);have q:=aA (Lib.BuilderAtF.put (T:=237) (e:=5) (v':=v') i c (bs':=l++Lib.strCells s) (by rw[aL,Lib.strCells_length];exact hown') qe);have n:=aA j;have d1:w2.cell? ⟨b,1,none⟩=some v:=by rw[Lib.cell_of_heap c];rfl
 have f1:w2.frozen? ⟨b,1,none⟩=false:=Lib.frozen_of_heap c 1;obtain⟨g,cap,rfl⟩:∃g cap,v'=.slice (some ⟨g,0,none⟩) (l.length+s.size) cap:=by
  exact QDm
 clear j hown' d c hbk f m a;go_wp2;go_ret2
 exact⟨rfl,q.o,n.o.setCell (p:=⟨b,1,none⟩) i _⟩
theorem QCM{p:Prop}(h:p:=by
 rintro e w2 ⟨rfl,hb⟩;have HB2:=qB HB1 hb;clear hb;go_wp2;go_ret;exact⟨by rw[HE4.o];rfl,HB2.o⟩):p:=h
theorem QBK{p:Prop}(h:p:=by
 rintro e w2 ⟨rfl,hb⟩;have HB2:=qB HB1 hb;clear hb;go_wp2;go_ret;exact⟨by rw[HE2.o];rfl,HB2.o⟩):p:=h
theorem Ut{p:Prop}(h:p:=by
 go_upto_region 8 with (fail)
 refine qW 14 (by kernel_rfl) (by kernel_rfl) ?_;simp only[List.take_succ_cons,List.take_zero,List.drop_succ_cons,List.drop_zero]
 repeat still_step
 refine wpStill_nil ?_;go_wp2_with fail;refine HQW.o.mono ?_;rintro e w2 ⟨rfl,hi,hb⟩;have HI2:=aA (HQR.o w2 (.inr hi));have HB2:=aA (HB.o.trans (Gc.trans hb));clear hi hb HI HB HQW HQR;go_wp2;go_roundw
 case rel=>exact⟨k+1,qo,by go_num,HI2,HB2⟩
 case measure=>simp[intOf];omega):p:=h
def Gb:ByteArray:=⟨#[48,49,50,51,52,53,54,55,56,57,97,98,99,100,101,102]⟩
theorem Ms:∀k:Fin 16,Gb.extract k.val (k.val+1)=⟨#[JX k.val]⟩:=by decide +kernel
theorem EL(a b:lU):Lib.byteCells a++Lib.byteCells b=Lib.byteCells (a++b):=by unfold Lib.byteCells;rw[List.map_append]
theorem RJ(l:lU):(Lib.byteCells l).length=l.length:=by unfold Lib.byteCells;rw[List.length_map]
def tO(l:lU):List UInt8:=34 ::l.flatMap uN
theorem BK(l:lU):(tO l).length<=1+3 * l.length:=by
 unfold tO;rw[List.length_cons];have h:(l.flatMap uN).length<=3 * l.length:=by
  induction l with
  |nil=>simp
  |cons c l a=>
   rw[List.flatMap_cons,aL,List.length_cons];have:(uN c).length<=3:=by unfold uN;split<;>simp
   omega
 omega
theorem RM(l:lU)(c:UInt8):tO (l++[c])=tO l++uN c:=by unfold tO;rw[List.flatMap_append,List.flatMap_cons,List.flatMap_nil,List.append_nil,List.cons_append]
theorem RN{c:UInt8}:fF c=true↔¬c.toNat<32/\¬126<c.toNat/\c.toNat≠34/\c.toNat≠92:=by
 unfold fF;simp only[Bool.and_eq_true,decide_eq_true_eq];omega
theorem Mt{s:bY}{k:Nat}(h:k<s.size):s.data.toList.take (k+1)=s.data.toList.take k++[s[k]]:=by
 rw[List.take_add_one,gE (by rw[Array.length_toList];exact h),Option.toList_some];rfl
theorem aA8:∀x:Fin 256,bits .and .u8 (x.val:Int) 15=((x.val % 16:Nat):Int):=by decide +kernel
theorem Mu:∀x:Fin 16,IntKind.u8.wrap ((x.val:Int)+1)=((x.val+1:Nat):Int):=by decide +kernel
theorem Gc{n:Nat}{w:World}:Below n w w.drew:=(Below.refl n w).drew
theorem Gd(s:bY)(R:s.size<=64)(w:World):Calls prog 103 #[.string s] w (lK (.string (bs (FV s.data.toList))) w):=by
 have y:Below w.heap.size w (w.alloc (.cells #[.pointer none,.slice none 0 0] 237)):=aB _ _;have z:IU w.heap.size w.heap.size (Lib.byteCells []) (w.alloc (.cells #[.pointer none,.slice none 0 0] 237)):= .inl ⟨lR _,.slice none 0 0,aK _ _ _ rfl,World.ownsRowF_of (World.ownsRow_nil _ _ _ _),by simp[Value.ownBlock]⟩;have o:=aA (fun (l:lU) (c:UInt8) (w1:World) (h:IU w.heap.size w.heap.size (Lib.byteCells l) w1) (Q:l.length<=1000) (hb:w.heap.size<=w1.heap.size)=>SO w.heap.size w.heap.size (Lib.byteCells l) (c.toNat:Int) w1 h (by rw[RJ];omega) hb);have r:=aA z;have n:=aA y;unfold lK;clear z y;go_enter func103,ntmps103;go_wp2_with fail;refine(o.o [] 34 _ r.o qs n.o.size).mono ?_;rintro e w1 ⟨rfl,hi,hb⟩;have HI:=aA (Or.inr hi:IU w.heap.size w.heap.size (Lib.byteCells (tO [])) w1);have HB:=aA (n.o.trans hb);clear hi hb r n;go_wp2;go_loopw [9] (fun i wr=>∃(k:Nat),k<=s.size/\i=.int .i64 k/\Hid (IU w.heap.size w.heap.size (Lib.byteCells (tO (s.data.toList.take k))) wr)/\Hid (Below w.heap.size w wr)) (fun i _=>s.size - (intOf i).toNat)
 case atStart=>exact⟨0,qo,rfl,HI,HB⟩
 case round=>
  obtain⟨k,P,rfl,HI,HB⟩:=hrel;by_cases E:k<s.size
  .have O:(s[k].toNat:Int)<256:=qA (s[k].toNat_lt);obtain⟨c,d⟩:=xE (s[k]);have A:s.data.toList.take (k+1)=s.data.toList.take k++[c]:=by rw[d];exact Mt E
   by_cases hp:fF c=true
   .obtain⟨m,p,q,B⟩:¬c.toNat<32/\¬126<c.toNat/\c.toNat≠34/\c.toNat≠92:=RN.1 hp;have d1:decide ((c.toNat:Int)<32)=false:=dF qo;have d2:decide ((c.toNat:Int) > 126)=false:=dF qo;have d3:((c.toNat:Int)==34)=false:=bN.2 qo;have d4:((c.toNat:Int)==92)=false:=bN.2 qo;rw[d] at d1 d2 d3 d4;go_wp2_with fail;refine(o.o _ s[k] _ HI.o (by have:=BK (s.data.toList.take k);rw[List.length_take] at this;omega) HB.o.size).mono ?_;rintro e w2 ⟨rfl,hi,hb⟩;have HI2:Hid (IU w.heap.size w.heap.size (Lib.byteCells (tO (s.data.toList.take (k+1)))) w2):=aA (by rw[A,RM,<-EL];unfold uN;rw[iP hp,d];exact .inr hi);have HB2:=aA (HB.o.trans hb);clear hi hb HI HB;go_wp2;go_roundw
    case rel=>exact⟨k+1,qo,by go_num,HI2,HB2⟩
    case measure=>simp[intOf];omega
   .have F:s[k].toNat<32\/(¬s[k].toNat<32/\126<s[k].toNat)\/(¬s[k].toNat<32/\¬126<s[k].toNat/\s[k].toNat=34)\/(¬s[k].toNat<32/\¬126<s[k].toNat/\s[k].toNat≠34/\s[k].toNat=92):=by
     rw[RN,d] at hp;omega
    obtain⟨a,ha⟩:=xE (s[k].toNat / 16);obtain⟨b,hb⟩:=xE (s[k].toNat % 16);have S:(s[k].toNat:Int) / 16=(a:Int):=qo;have qb:bits .and .u8 (s[k].toNat:Int) 15=(b:Int):=by rw[hb];exact aA8 ⟨s[k].toNat,s[k].toNat_lt⟩
    have v:a<16:=qo;have x:b<16:=qo;have G:=Mu ⟨a,v⟩;have H:=Mu ⟨b,x⟩;have L:(0:Int)<=(a:Int):=qo;have a2:(a:Int)<=(a:Int)+1:=qo;have a3:(a:Int)+1<=16:=qo;have a4:(0:Int)<=(a:Int)+1:=qo;have b2:(b:Int)<=(b:Int)+1:=qo;have M:(b:Int)+1<=16:=qo;have N:(0:Int)<=(b:Int)+1:=qo;obtain⟨X,f⟩:∃X:bY,X=⟨#[JX a]⟩:=⟨_,rfl⟩;obtain⟨Y,g⟩:∃Y:bY,Y=⟨#[JX b]⟩:=⟨_,rfl⟩;have I:Gb.extract a (a+1)=X:=(Ms ⟨a,v⟩).trans f.symm;have J:Gb.extract b (b+1)=Y:=(Ms ⟨b,x⟩).trans g.symm;unfold Gb at I J;have U:X.size=1:=by rw[f];rfl
    have V:Y.size=1:=by rw[g];rfl
    have j:(⟨#[92]⟩++X++Y:bY)=⟨#[92,JX a,JX b]⟩:=by rw[f,g];rfl
    have HQW:=aA (MS w.heap.size w.heap.size (Lib.byteCells (tO (s.data.toList.take k))) (⟨#[92]⟩++X++Y) wr.drew HI.o (by rw[RJ];have:=BK (s.data.toList.take k);rw[List.length_take] at this;omega) (by rw[j];show 0<3;decide) (by rw[j];show 3<=100000;decide) HB.o.size);have HQR:Hid (∀w2:World,IU w.heap.size w.heap.size (Lib.byteCells (tO (s.data.toList.take k))++Lib.strCells (⟨#[92]⟩++X++Y)) w2->IU w.heap.size w.heap.size (Lib.byteCells (tO (s.data.toList.take (k+1)))) w2):=aA (fun w2 h=>by rw[A,RM,<-EL];rw[j] at h;unfold uN;rw[iN hp,d,<-ha,<-hb];exact h);have K:=aA (And.intro ha hb);clear f g j;clear ha hb;dsimp only at G H
    rcases F with m|⟨m,p⟩|⟨m,p,q⟩|⟨m,p,q,B⟩
    .have d1:decide ((s[k].toNat:Int)<32)=true:=dX qo;exact Ut
    .have d1:decide ((s[k].toNat:Int)<32)=false:=dF qo;have d2:decide ((s[k].toNat:Int) > 126)=true:=dX qo;exact Ut
    .have d1:decide ((s[k].toNat:Int)<32)=false:=dF qo;have d2:decide ((s[k].toNat:Int) > 126)=false:=dF qo;have d3:((s[k].toNat:Int)==34)=true:=bQ.2 qo;clear q;exact Ut
    .have d1:decide ((s[k].toNat:Int)<32)=false:=dF qo;have d2:decide ((s[k].toNat:Int) > 126)=false:=dF qo;have d3:((s[k].toNat:Int)==34)=false:=bN.2 qo;have d4:((s[k].toNat:Int)==92)=true:=bQ.2 qo;clear B;exact Ut
  .have D:k=s.size:=qo;rw[D,List.take_of_length_le (by rw[Array.length_toList];exact lR _)] at HI;go_wp2_with fail;refine(o.o _ 34 _ HI.o (by have:=BK s.data.toList;have h2:s.data.toList.length=s.size:=(by rw[Array.length_toList];rfl);omega) HB.o.size).mono ?_;rintro e w2 ⟨rfl,hi,hb⟩;have t:=aA (Builder_String_any_k w.heap.size w.heap.size (tO s.data.toList++[34]) w2 (by rw[<-EL];exact .inr hi) (HB.o.trans hb).size);have HB2:=aA (HB.o.trans hb);clear hi hb HI HB;go_wp2_with fail;refine t.o.mono ?_;rintro e T ⟨rfl,-,hb,-⟩;have C:=aA (HB2.o.trans hb);clear hb t HB2;go_wp2;go_ret;exact⟨rfl,C.o⟩
theorem Ge(B:Nat)(w:World)(k:Nat)(os:Array Obj)(h:B<=w.heap.size):Below B w (Go.Sort.grow (w.drewN k) os):=by
 have h1:Below B w (w.drewN k):=gA (Below.refl B w) ⟨k,rfl⟩;have h2:w.heap.size<=(w.drewN k).heap.size:=h1.size;exact⟨h1.os,h1.tape,h1.output,by show _<=((w.drewN k).heap++os).size;rw[Array.size_append];omega,fun j hj=>by
  show ((w.drewN k).heap++os)[j]? =_;rw[Array.getElem?_append_left qo];exact h1.block j hj⟩
theorem BL(n:Int)(a:bJ n)(w:World)(b:Gl w):Calls prog 46 #[.int .i64 n] w (lK (.string (bs (mR n))) w):=by
 refine(strconv_Itoa n a.1 a.2 w b.tab).mono ?_;rintro e w' ⟨rfl,k,os,rfl⟩;exact⟨rfl,Ge _ w k os (lR _)⟩
theorem Bx(b:Bool)(w:World):Calls prog 102 #[.bool b] w (lK (.string (bs (if b=true then cW "true" else cW "false"))) w):=by
 refine(strconv_FormatBool b w).mono ?_;rintro e w' ⟨rfl,rfl⟩;refine⟨?_,Below.refl _ _⟩
 cases b<;>rfl
theorem Sj{v:V3}(h:aT v=false):vN v=[]:=iP h
theorem Sk{k n:Int}{s:bY}(h:aT (k,n,s)=true):vN (k,n,s)=(if k=1 then (if n=1 then cW "true" else cW "false") else if k=4 then [64]++mR n else if k=5 then [35]++s.data.toList else if k=3 then FV s.data.toList else mR n):=by
 unfold vN;rw[iN (by rw[h];decide)]
theorem IV{n:Int}{s:bY}(h:aT (3,n,s)=true):s.size<=64:=by
 unfold aT at h;simp at h;exact h.2
theorem uO(n:Int)(b:bJ n):(bs (mR n)).size<=100:=by
 have a:∀k u:Nat,u<10 ^ (k+1)->(Lib.decDigits u).length<=k+1:=by
  intro k
  induction k with
  |zero=>intro u hu;rw[Lib.decDigits_one qo];exact lR _
  |succ k c=>
   intro u hu;rw[Lib.decDigits];split
   .simp
   .rw[aL];have:=c (u / 10) (by rw[Nat.pow_succ] at hu;omega);simp only[List.length_cons,List.length_nil];omega
 have h0:=b.1;have h1:=b.2;have h2:(bs (mR n)).size=(mR n).length:=by unfold bs;exact List.size_toArray
 rw[h2];unfold mR Lib.itoa;split
 .have:=a 19 n.natAbs qo;rw[List.length_cons];omega
 .have:=a 19 n.toNat qo;omega
theorem Mv(v:V3)(x:cR v)(w:World)(C:Gl w):Calls prog 47 #[dE v] w (lK (.string (bs (vN v))) w):=by
 obtain⟨k,n,s⟩:=v;obtain⟨W0,i⟩:=xE (w.alloc (.cells #[.int .i64 k,.int .i64 n,.string s] 34));have r:Below w.heap.size w W0:=by rw[i];exact aB _ _
 have R:Hid (W0.heap[w.heap.size]? =some (.cells #[.int .i64 k,.int .i64 n,.string s] 34 (0,0))):=aA (by rw[i];exact aK _ _ _ rfl);obtain⟨O,t⟩:=xE (vN (k,n,s));rw[<-t];obtain⟨A,J,f,z,I,N⟩:=hD6 (nQ k n s (by have:s.size<=cQ:=x.2.2;unfold cQ at this;unfold maxLen;omega) W0) (C.on r) x t r i;unfold lK dE;clear r i C x t;obtain⟨⟨E,F,G⟩,-⟩:=cG R.o;have H:=aD R.o;go_enter func47,ntmps47;go_upto_region 1 with (fail)
 rw[<-N.o];go_wp2_with fail;refine A.o.mono ?_;rintro e w1 ⟨rfl,hb⟩;obtain⟨HB1,B,y⟩:=aY (aC I.o hb) (aE R.o hb) (J.o.on hb);clear E F G H hb A;obtain⟨⟨E,F,G⟩,-⟩:=cG B.o;have H:=aD B.o
 cases g:aT (k,n,s)
 .have c:=aA (z.o.trans (Sj g));go_wp2;go_ret;exact⟨by rw[c.o];rfl,HB1.o⟩
 .have c:=aA (z.o.trans (Sk g));have M:=aA g;clear g;by_cases j:k=1
  .have b:=aA (c.o.trans (iP j));subst j;by_cases a:n=1
   .have d1:(n==(1:Int))=true:=bQ.2 a;have p:=aA (Bx true w1);have HE2:=aA (b.o.trans (iP a));clear a;go_wp2_with fail;refine p.o.mono ?_;exact QBK
   .have d1:(n==(1:Int))=false:=bN.2 a;have p:=aA (Bx false w1);have HE2:=aA (b.o.trans (iN a));clear a;go_wp2_with fail;refine p.o.mono ?_;exact QBK
  .have c1:(k==(1:Int))=false:=bN.2 j;have b:=aA (c.o.trans (iN j));by_cases m:k=4
   .have HE2:=aA (b.o.trans (iP m));subst m;have q:=aA (BL n f.o.2.1 w1 y.o);have D:=uO n f.o.2.1;generalize mR n=L at *;go_wp2_with fail;refine q.o.mono ?_;exact QBK
   .have c4:(k==(4:Int))=false:=bN.2 m;have HE2:=aA (b.o.trans (iN m));by_cases o:k=5
    .have d:=aA (HE2.o.trans (iP o));subst o;have D:s.size<=cQ:=f.o.2.2;unfold cQ at D;go_wp2;go_ret;exact⟨by rw[d.o];rfl,HB1.o⟩
    .have c5:(k==(5:Int))=false:=bN.2 o;have d:=aA (HE2.o.trans (iN o));by_cases l:k=3
     .have HE4:=aA (d.o.trans (iP l));subst l;have K:=aA (Gd s (IV M.o) w1);go_wp2_with fail;refine K.o.mono ?_;exact QCM
     .have c3:(k==(3:Int))=false:=bN.2 l;have HE4:=aA (d.o.trans (iN l));have q:=aA (BL n f.o.2.1 w1 y.o);go_wp2_with fail;refine q.o.mono ?_;exact QCM
theorem QAl{p:Prop}(h:p:=by
 by_cases z5:0<r.at_
 .have HN2:=aA (HN.o.trans (iP ⟨z0,z5⟩));have d5:decide (r.at_ > (0:Int))=true:=dX z5;have p0:∀p:In (BR W0),p.w.cell? ⟨w.heap.size,0,none⟩=some (.int .i64 r.err):=fun p=>(p.h.cell zr).trans r0
  have p7:∀p:In (BR W0),p.w.cell? ⟨w.heap.size,7,none⟩=some (.int .i64 r.at_):=fun p=>(p.h.cell zr).trans r7
  have HX:=aA (fun (n:Int) (hn:bJ n) w' (hb':Below W0.heap.size W0 w')=>(BL n hn w' (HG.o.on hb')).mono fun e w2 (h:lK _ w' e w2)=>(⟨h.1,aC hb' h.2⟩:e=_/\Below W0.heap.size W0 w2));have hs1:=uO r.err HE.o;have hs2:=uO r.at_ HA.o;have HX1:=aA (HX.o r.err HE.o);have HX2:=aA (HX.o r.at_ HA.o);obtain⟨L1,hL1⟩:=xE (mR r.err);obtain⟨L2,hL2⟩:=xE (mR r.at_);rw[<-hL1,<-hL2] at HN2;rw[<-hL1] at hs1 HX1;rw[<-hL2] at hs2 HX2;obtain⟨l1,hl1⟩:=xE (bs L1);obtain⟨l2,hl2⟩:=xE (bs L2);rw[<-hl1] at hs1 HX1;rw[<-hl2] at hs2 HX2;have HL1:=aA hl1;have HL2:=aA hl2;clear hL1 hL2 z0 z5 HX hl1 hl2;go_upto_region 4 with (fail)
  refine CK (C:=BR W0) (by kernel_rfl) (by kernel_rfl) (TH W0) ?_
  repeat (go_big_quiet_step (first|exact in_call fun w' hb=>HX1.o w' hb|exact in_call fun w' hb=>HX2.o w' hb))
  refine wpQuiet_nil ?_;intro w2 hb2;have HB2:=qB HB0 (show Below W0.heap.size W0 w2 from hb2);clear hb2;go_wp2;go_ret;exact⟨by rw[HN2.o,HL1.o,HL2.o];rfl,HB2.o⟩
 .have HN2:=aA (HN.o.trans ((iN (fun h=>z5 h.2)).trans (iP z0)));have d5:decide (r.at_ > (0:Int))=false:=dF z5;have HX:=aA (BL r.err HE.o W0 HG.o);have hs1:=uO r.err HE.o;generalize mR r.err=L1 at *;clear z0 z5;go_wp2_with fail;refine HX.o.mono ?_;rintro e w2 ⟨rfl,hb⟩;have HB2:=qB HB0 hb;clear hb;go_wp2;go_ret;exact⟨by rw[HN2.o];rfl,HB2.o⟩):p:=h
theorem Mw(m:Mk):Cm.bT m=bs (FU m):=by
 unfold Cm.bT FU;split
 .rfl
 split
 .rfl
 split
 .rfl
 split
 .rfl
 split
 .rfl
 split
 .rfl
 rfl
theorem Mx(m:Mk):(bs (FU m)).size<=100:=by
 unfold FU
 repeat (split;(· decide))
 decide
theorem My(v:V3)(a:cR v):(bs (vN v)).size<=1000100:=by
 have b:=uO v.2.1 a.2.1;rw[cI] at b ⊢;have e:v.2.2.data.toList.length<=1000000:=by rw[Array.length_toList];exact a.2.2
 unfold vN;split
 .simp
 rename_i c;split
 .split<;>decide
 split
 .rw[aL];simp only[List.length_cons,List.length_nil];omega
 split
 .rw[aL];simp only[List.length_cons,List.length_nil];omega
 split
 .rename_i h3;have h64:v.2.2.size<=64:=IV (n:=v.2.1) (s:=v.2.2) (by
   have h4:v=(3,v.2.1,v.2.2):=by rw[<-h3]
   rw[<-h4];simpa using c)
  have d:=BK v.2.2.data.toList;have h5:v.2.2.data.toList.length=v.2.2.size:=by rw[Array.length_toList];rfl
  have h6:FV v.2.2.data.toList=tO v.2.2.data.toList++[34]:=rfl;rw[h6,aL];simp only[List.length_cons,List.length_nil];omega
 .omega
theorem Gf(r:Rpl)(hm:Cm.QP r.mark)(A:cR r.val)(he:bJ r.err)(ha:bJ r.at_)(w:World)(z:Gl w):Calls prog 15 #[.agg (dZ r)] w (lK (.string (FW r)) w):=by
 obtain⟨O,q⟩:=xE (Br r);unfold FW;rw[<-q];obtain⟨k,B,v,HE,HA⟩:=gG q (Cm.AP r.mark hm) A he ha;obtain⟨W0,c⟩:=xE (w.alloc (.cells (dZ r) 36));have o:Below w.heap.size w W0:=by rw[c];exact aB _ _
 have R:Hid (W0.heap[w.heap.size]? =some (.cells (dZ r) 36 (0,0))):=aA (by rw[c];exact aK _ _ _ rfl);have HB0:=aA o;have HG:=aA (z.on o);unfold dZ at c R ⊢;have D:=aA c;unfold lK;clear o c q A he ha z;obtain⟨⟨r0,I,J,K,M,N,P,r7⟩,-⟩:=mP R.o;have zr:=aD R.o;obtain⟨y,s⟩:∃b,decide (r.mark=((4,0):Mk))=b:=⟨_,rfl⟩;have G:((FloatKind.f64.format.order (Cm.qb r.mark.1) 4607182418800017408==some .eq)&&(FloatKind.f64.format.order (Cm.qb r.mark.2) 0==some .eq))=y:=(Cm.iZ r.mark.1 r.mark.2 4 0 hm qe qe).trans ((sI r.mark (4,0)).trans s);have t:=aA s;clear s hm;go_enter func15,ntmps15;go_upto_region 1 with (fail)
 rw[<-D.o];by_cases h12:r.err=12
 .have d12:(r.err==(12:Int))=true:=bQ.2 h12;have z0:r.err≠0:=qo;have m:(r.err != (0:Int))=true:=bne_iff_ne.2 z0
  cases y
  .have HN:=aA (k.o.trans (iP ⟨h12,of_decide_eq_false t.o⟩));have H:=Mx r.mark;have l:=aA (B.o W0);rw[Mw r.mark] at l;clear h12 z0 m;generalize FU r.mark=L at *;unfold Cm.mk at l;go_wp2_with fail;refine l.o.mono ?_;rintro e w1 ⟨rfl,rfl⟩;go_wp2;go_ret;exact⟨by rw[HN.o];rfl,HB0.o⟩
  .have HN:=aA (k.o.trans (iN (fun h=>h.2 (of_decide_eq_true t.o))));clear h12;exact QAl
 .have d12:(r.err==(12:Int))=false:=bN.2 h12;have HN:=aA (k.o.trans (iN (fun h=>h12 h.1)));clear h12;by_cases z0:r.err=0
  .have m:(r.err != (0:Int))=false:=by rw[z0];rfl
   have HN2:=aA (HN.o.trans ((iN (fun h=>h.1 z0)).trans (iN (fun h=>h z0))));clear z0;by_cases g:r.aD8=true
   .have d:=aA (HN2.o.trans (iP g));go_wp2;go_ret;exact⟨by rw[d.o];rfl,HB0.o⟩
   .have d:=aA (HN2.o.trans (iN g));have dg:r.aD8=false:=by simpa using g
    clear g;by_cases i:r.hidden=true
    .have f:=aA (d.o.trans (iP i));go_wp2;go_ret;exact⟨by rw[f.o];rfl,HB0.o⟩
    .have f:=aA (d.o.trans (iN i));have F:r.hidden=false:=by simpa using i
     clear i;by_cases a:r.val=bD
     .have j:=aA (f.o.trans (iN (fun h=>h a)));have E:∀w,Sem.run prog (binOp .neq 34 (.agg #[.int .i64 r.val.1,.int .i64 r.val.2.1,.string r.val.2.2]) (.agg #[.int .i64 0,.int .i64 0,.string ⟨#[]⟩])) w=.ok (.bool false) w:=fun w=>(yY r.val bD w).trans (by rw[dX a];rfl)
      clear a;go_wp2;go_ret;exact⟨by rw[j.o];rfl,HB0.o⟩
     .have j:=aA (f.o.trans (iP a));have E:∀w,Sem.run prog (binOp .neq 34 (.agg #[.int .i64 r.val.1,.int .i64 r.val.2.1,.string r.val.2.2]) (.agg #[.int .i64 0,.int .i64 0,.string ⟨#[]⟩])) w=.ok (.bool true) w:=fun w=>(yY r.val bD w).trans (by rw[dF a];rfl)
      have HX:=aA (Mv r.val v.o W0 HG.o);have hs1:=My r.val v.o;unfold dE at HX;clear a;generalize vN r.val=L at *;go_wp2_with fail;refine HX.o.mono ?_;rintro e w2 ⟨rfl,hb⟩;have HB2:=qB HB0 hb;clear hb;go_wp2;go_ret;exact⟨by rw[j.o];rfl,HB2.o⟩
  .have m:(r.err != (0:Int))=true:=bne_iff_ne.2 z0;exact QAl
structure eK (p:PS):Prop where
 b0:0<=p.bad
 b1:p.bad<=100
 q0:0<=p.place
 q1:p.place<=1000000
section
variable {L:List Tok} (T:Toks L)
theorem XN{e q:Int}{p:PS}(h:eK p)(h0:0<=e)(h1:e<=100)(h2:0<=q)(h3:q<=1000000):eK (eR e q p):=by
 unfold eR;split
 .exact⟨h0,h1,h2,h3⟩
 .exact h
include T
theorem Xp(p:PS):0<=(aU L p).at_/\(aU L p).at_<=4096:=by
 unfold aU
 rcases h:L[p.at_]? with _|t
 .exact⟨qe,qe⟩
 .exact T.place t (List.mem_of_getElem? h)
theorem BM{e:Int}(r:PS){p:PS}(h:eK p)(h0:0<=e)(h1:e<=100):eK (eR e (aU L r).at_ p):=by
 have:=Xp T r;exact XN h h0 h1 this.1 qo
theorem pN{p:PS}(h:eK p):eK (dM L p):=BM T p h qe qe
theorem tP(b:Bool){p:PS}(h:eK p):eK (cT L b p):=by
 unfold cT;split
 .exact BM T p h qe qe
 .exact h
omit T in
theorem nG{p:PS}{n:Nat}(h:eK p):eK {p with at_:=n}:=⟨h.b0,h.b1,h.q0,h.q1⟩
omit T in
theorem Xq(s:bY){p:PS}(h:eK p):eK (kS L s p).2:=by
 unfold kS;split
 .exact nG h
 .exact h
theorem pX(s:bY){p:PS}(h:eK p):eK (eM L s p):=by
 unfold eM;split
 .exact nG h
 .exact pN T h
theorem zH{p:PS}(h:eK p):eK (bT L p).2:=by
 unfold bT;dsimp only;by_cases a:(aU L p).aDG≠1
 .rw[iP a];split
  .exact pN T h
  .exact nG (pN T h)
 .rw[iN a];split
  .exact h
  .exact nG h
theorem pO(words:List ByteArray){p:PS}(h:eK p):eK (aZ L words p).2:=by
 unfold aZ;dsimp only;split
 .exact nG h
 .exact pN T h
theorem By{p:PS}(h:eK p):eK (cE L p).2:=by
 unfold cE;dsimp only;exact Xq _ (zH T (pX T _ (pO T _ h)))
theorem RO{p:PS}(h:eK p):eK (eT L p).2:=by
 unfold eT;dsimp only
 repeat (split;(· exact h))
 exact pN T h
theorem XO{p:PS}(h:eK p):eK (dC L p).2:=by
 rw[zO];split
 .exact RO T h
 .exact nG (RO T h)
theorem aA9{p:PS}(h:eK p):eK (sP L p).2:=by
 unfold sP
 repeat (split;(· exact nG h))
 exact pN T h
theorem XP{p:PS}(h:eK p):eK (eH L p).2:=by
 unfold eH;dsimp only;exact XO T (aA9 T (By T h))
theorem zI{α:Type}{one:PS->α×PS}(a:∀{p:PS},eK p->eK (one p).2)(sep:bY):∀(f:Nat) (l:List α) {p:PS},eK p->eK (jY L one sep f l p).2
 |0,l,p,h=>h
 |f+1,l,p,h=>by
  unfold jY;split
  .exact zI a sep f _ (tP T _ (a (nG h)))
  .exact h
theorem Mz{p:PS}(h:eK p):eK (jD L p).2:=by
 unfold jD;dsimp only;exact zI T (XP T) _ _ _ (XP T h)
theorem Na{p:PS}(h:eK p):eK (mK L p).2:=by
 unfold mK;dsimp only;exact pX T _ (zI T (Mz T) _ _ _ (Mz T (pX T _ h)))
theorem EM{p:PS}(h:eK p):eK (bU L p).2:=by
 unfold bU;split
 .dsimp only;exact zI T (Na T) _ _ _ (Na T (nG h))
 .exact h
theorem Xr{p:PS}(h:eK p):eK (tQ L p).2:=by
 unfold tQ;dsimp only;exact zH T (pO T _ (pO T _ h))
theorem BO{p:PS}(h:eK p):eK (gO L p).2:=zI T (Xr T) _ _ _ h
theorem Bz:∀(f:Nat) (l:List No) {p:PS},eK p->eK (eZ L f l p).2
 |0,l,p,h=>by unfold eZ;exact h
 |f+1,l,p,h=>by
  have c:∀{l:List No} {p:PS} (must:Bool),eK p->eK (dG L f (l,p) must).2:=by
   intro l p must h;unfold dG;dsimp only;split
   .exact h
   .have h1:=Bz f l h;split
    .exact BM T _ h1 qe qe
    .exact h1
  have b:∀(ms:List Bool) {l:List No} {p:PS},eK p->eK (ms.foldl (dG L f) (l,p)).2:=by
   intro ms
   induction ms with
   |nil=>intro l p h;exact h
   |cons m ms d=>
    intro l p h;have h1:=c (l:=l) m h;exact d h1
  unfold eZ;dsimp only;by_cases a:cM L (str "(") p=true
  .rw[iP a];exact tP T _ (pX T _ (b (fN (2+(aZ L eG {p with at_:=p.at_+1}).1)) (l:=l) (pO T _ (nG h))))
  .rw[iN a];split
   .exact tP T _ (By T h)
   .exact tP T _ (XO T h)
theorem Gg(l:List No)(must:Bool){p:PS}(h:eK p):eK (jG L l must p).2:=by
 unfold jG;dsimp only;have h1:=Bz T L.length l h;split
 .exact BM T _ h1 qe qe
 .exact h1
theorem Xs(deny:Bool){p:PS}(h:eK p):eK (kT L deny p).2:=by
 unfold kT;dsimp only;refine pX T _ (BO T ?_);have h2:=EM T (zH T h);split
 .exact Gg T _ _ (nG h2)
 .exact h2
theorem OS:∀(f:Nat) (l:List Ru) {p:PS},eK p->eK (iO L f l p).2
 |0,l,p,h=>by unfold iO;exact h
 |f+1,l,p,h=>by
  unfold iO;split
  .dsimp only;have h1:=tP T (decide (l.length=16)||decide (p.aDK=64)) h;split
   .exact h1
   .exact OS f _ (Xs T _ ⟨h1.b0,h1.b1,h1.q0,h1.q1⟩)
  .exact h
theorem OT{one:PS->Po×PS}(a:∀{p:PS},eK p->eK (one p).2)(deep:Bool):∀(f:Nat) (l:List Po) {p:PS},eK p->eK (gP L one deep f l p).2
 |0,l,p,h=>by unfold gP;exact h
 |f+1,l,p,h=>by
  unfold gP;split
  .dsimp only;have h1:=tP T (decide (l.length=16)||deep) h;split
   .exact h1
   .exact OT a deep f _ (a h1)
  .exact h
theorem Nb:∀(n:Nat) {p:PS},eK p->eK (cP L n p).2:=by
 intro n
 induction n with
 |zero=>
  intro p h;unfold cP;dsimp only;refine BO T (pX T _ ?_);have h5:=pX T rH (EM T (pO T dH (zH T (pO T [str "policy",str "set"] h))));split
  .exact OT T (one:=fun q=>(mJ,q)) (fun h=>h) true L.length [] h5
  .exact OS T L.length [] h5
 |succ n a=>
  intro p h;unfold cP;dsimp only;refine BO T (pX T _ ?_);have h5:=pX T rH (EM T (pO T dH (zH T (pO T [str "policy",str "set"] h))));split
  .exact OT T a false L.length [] h5
  .exact OS T L.length [] h5
end
def Sm(x:List Tok×Int×Int):Prop:=0<=x.2.1/\x.2.1<=100/\0<=x.2.2/\x.2.2<=1000000
theorem Nc{n:Nat}(h:n<=10000):Sm ([],5,(n:Int)):=⟨by show (0:Int)<=5;decide,by show (5:Int)<=100;decide,by show (0:Int)<=(n:Int);omega,by show (n:Int)<=1000000;omega⟩
theorem aAw(l:List Tok):Sm (l,0,0):=⟨by show (0:Int)<=0;decide,by show (0:Int)<=100;decide,by show (0:Int)<=0;decide,by show (0:Int)<=1000000;decide⟩
theorem KA:∀(f:Nat) (l:lU) (n:Nat) (out:List Tok),n+l.length<=4096->Sm (jN f l n out)
 |0,l,n,out,h=>Nc qo
 |f+1,[],n,out,h=>aAw _
 |f+1,c::r,n,out,h=>by
  have a:=(qN (c::r) qo).le;rw[List.length_cons] at h a;unfold jN;dsimp only;split
  .exact KA f r (n+1) out qo
  .split
   .exact Nc qo
   .refine KA f _ _ _ ?_;rw[List.length_drop,List.length_cons];omega
theorem aAx(l:lU):Sm (jR l):=by
 unfold jR;split
 .exact⟨by show (0:Int)<=6;decide,by show (6:Int)<=100;decide,by show (0:Int)<=4096;decide,by show (4096:Int)<=1000000;decide⟩
 .exact KA _ _ _ _ qo
theorem aAy{l:List Tok}(T:Toks l)(S:bY)(b:S.size<=1000000)(X:Po×PS)(a:eK X.2):eK (wS S X.1 (Bh l X.2)):=by
 have h2:eK (Bh l X.2):=by
  unfold Bh;split
  .exact pN T a
  .exact a
 unfold wS;split
 .exact XN h2 qe qe qo qo
 .exact h2
theorem aAz(P:Po){p:PS}(h:eK p):(0<=(uW P p).2.1/\(uW P p).2.1<=100)/\0<=(uW P p).2.2/\(uW P p).2.2<=1000000:=by
 unfold uW;split
 .exact⟨⟨h.b0,h.b1⟩,h.q0,h.q1⟩
 .exact⟨⟨Int.le_refl _,by show (0:Int)<=100;decide⟩,Int.le_refl _,by show (0:Int)<=1000000;decide⟩
theorem XQ(S:bY)(c:S.size<=1000000):(0<=(fG S).2.1/\(fG S).2.1<=100)/\0<=(fG S).2.2/\(fG S).2.2<=1000000:=by
 have h:=aAx S.data.toList;have b:=TM (l:=S.data.toList);obtain⟨x,a⟩:=xE (jR S.data.toList);rw[<-a] at h b;obtain⟨l,e,q⟩:=x;by_cases he:e=0
 .subst he;have T:=(b rfl).1;rw[QO a.symm];exact aAz _ (aAy T S c _ (Nb T 3 ⟨qe,qe,qe,qe⟩))
 .rw[WH a.symm he];exact⟨⟨h.1,h.2.1⟩,h.2.2.1,h.2.2.2⟩
structure OU (r:Rpl):Prop where
 mark:Cm.QP r.mark
 val:cR r.val
 err:bJ r.err
 at_:bJ r.at_
theorem xV:cR bD:=⟨by unfold bD bJ;simp,by unfold bD bJ;simp,Nat.zero_le _⟩
theorem Gh{w:World}{ok:nP}{s:Sto}{vc vr vn vo vt vu vk vb:Value}{N:bY}{c:cH}(h:fD w ok s vc vr vn vo vt vu vk vb)(a:eW s N=some c)(F:bY):cR (gL c F):=by
 rcases FG s N with ⟨e,_⟩|⟨k,n,_,e⟩
 .rw[e] at a;cases a
 .rw[e] at a;injection a with a;subst a;have g:=h.aDH;obtain⟨o,p,rfl,_⟩:=g.slice;obtain⟨b,off,r,_,_,_,⟨v,x,_,m⟩,_⟩:=aH.at dY g n qe;have i:=m.2.2.2.1;obtain⟨q,t,rfl,_⟩:=i.slice;unfold gL
  rcases d:s.aDH[k].aDM.find? (fun f=>decide (f.1=F)) with _|f
  .rw[d];exact xV
  .rw[d];obtain⟨j,hj,he⟩:=List.getElem_of_mem (List.mem_of_find?_eq_some d);obtain⟨_,_,_,_,_,_,⟨_,l⟩,_⟩:=aH.at bP i hj qe;rw[he] at l;exact l.2
theorem ZV(s:Sto)(o:Op):0<=dO s o/\dO s o<=100:=by
 unfold dO iL iX
 repeat' split
 all_goals exact⟨qe,qe⟩
theorem Nd(g:List Gv)(p:Po):0<=(gD g p).2/\(gD g p).2<=1:=by
 unfold gD qV
 repeat' split
 all_goals first|exact⟨qe,qe⟩|exact⟨Int.le_refl _,by show (0:Int)<=1;decide⟩
theorem rF{n:Int}(h0:0<=n)(h1:n<=1000000):bJ n:=by unfold bJ;omega
theorem XR:bJ 0:=rF (Int.le_refl _) qe
theorem Xt{c:Prop}[Decidable c]{x y:Sto×Rpl×Option Deci×Int}(a:OU x.2.1)(b:OU y.2.1):OU (if c then x else y).2.1:=by
 split
 .exact a
 .exact b
theorem OW{e q:Int}(he:bJ e)(a:bJ q):OU {qX with err:=e,at_:=q}:=⟨⟨Nat.zero_le _,Nat.zero_le _⟩,xV,he,a⟩
theorem Sn{w:World}{ok:nP}{s:Sto}{vc vr vn vo vt vu vk vb:Value}(h:fD w ok s vc vr vn vo vt vu vk vb)(o:Op)(g:o.text.size<=1000000):OU (bZ s o).2.1:=by
 have i:=ZV s o;have hp:=XQ o.text g;have j:=Nd (lM s o) s.aDI;have h1:bJ (oR s o).1/\bJ (oR s o).2:=by
  unfold oR;split
  .exact⟨rF hp.1.1 qo,rF hp.2.1 hp.2.2⟩
  .exact⟨rF i.1 qo,XR⟩
 by_cases a:(oR s o).1≠0
 .rw[MK a];exact OW h1.1 h1.2
 .have b:(oR s o).1=0:=by simpa using a
  by_cases d:(gD (lM s o) s.aDI).2≠0
  .rw[ML b d];exact OW (rF j.1 qo) h1.2
  .rw[MM b rfl (by simpa using d) rfl rfl rfl rfl rfl];refine Xt (OW (e:=6) (rF qe qe) h1.2) ?_
   .refine⟨(vM _ _).1,?_,?_,XR⟩
    .unfold oF;dsimp only;split
     .rcases f:eW s o.aDN with _|c
      .exact xV
      .exact Gh h f o.aD1
     .exact xV
    .unfold oF;dsimp only;split
     .exact XR
     .exact rF qe qe
end Go.Proofs.YtheabjeppmdmiaaGreatDoor
