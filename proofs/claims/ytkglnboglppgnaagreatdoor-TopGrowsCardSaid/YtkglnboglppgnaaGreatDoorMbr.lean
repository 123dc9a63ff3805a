/- Lemmas. -/
import Derived.Lib.FrozenHead2
import Derived.Lib.OthersKept
import Derived.Test.YtkglnboglppgnaaGreatDoorMbp
namespace Go.Proofs.YtkglnboglppgnaaGreatDoor
open Go.RowKit
set_option linter.unusedVariables false
set_option linter.unusedSimpArgs false
set_option maxHeartbeats 16000000
open _root_.Go.Proofs.Tryz
set_option maxRecDepth 20000
theorem QDm{p:Prop}(h:p:=by
 rcases hown'.2 with ⟨_,h0⟩|⟨g,cap,cur,fz,hv,_⟩
 .omega
 .exact⟨g,cap,hv⟩):p:=h
theorem QDe{p:Prop}(h:p:=by
 rcases Nat.lt_or_ge b w1.heap.size with h'|h'
 .exact h'
 .simp[Array.getElem?_eq_none h'] at hbk):p:=h
abbrev Zk(B b:Nat)(p:Value)(l:List Value)(w:World):Prop:=Lib.BuilderAtF 205 5 B b p l w
abbrev IG(B b:Nat)(l:List Value)(w:World):Prop:=Lib.IsBuilderF 205 5 B b l w
abbrev tQ(b:Nat):Value:= .pointer (some ⟨b,0,none⟩)
theorem Zl:(prog.info? 205).map (·.size)=some 2:=by kernel_rfl
theorem QI(B b:Nat)(l:List Value)(w:World)(h:IG B b l w):Calls prog 177 #[tQ b] w fun e w'=>e=.returned (.tuple #[])/\Zk B b (tQ b) l w'/\Below B w w':=by
 obtain⟨j,hj,c⟩:=Option.map_eq_some_iff.1 Zl
 rcases h with h|h
 .have h0:=h.cell0;have a:=h.shape;have d:=h.frozen0;go_enter func177,ntmps177;go_wp2;rw[Lib.run_to_unsafe w ⟨b,0,none⟩ underlying203 underlying310 hj (by rw[c];decide) a (Nat.zero_lt_succ 1)];simp only[Result.andThen];rw[Oper.upon_value];go_wp2;rw[run_callFunc_extern func221 (by kernel_rfl) (by kernel_rfl) (by kernel_rfl) (e:=Extern.AbiNoEscape.same) (by kernel_rfl)];rw[Lib.run_noEscape];simp only[Result.andThen];rw[Oper.upon_value];go_wp2;rw[Lib.run_from_unsafe w ⟨b,0,none⟩ underlying310 underlying203 hj a (by kernel_rfl)];simp only[Result.andThen];rw[Oper.upon_value];go_wp2;go_end0
  exact⟨rfl,h.used _,(Below.refl B w).setCell (p:=⟨b,0,none⟩) h.1 _⟩
 .have h0:=h.cell0;go_enter func177,ntmps177;go_wp2;rw[Lib.run_neq_ptr_same w _ underlying203 hj];go_wp2;go_end0
  exact⟨rfl,h,Below.refl B _⟩
theorem RT(B b:Nat)(l:List Value)(c:Int)(w:World)(h:IG B b l w)(E:l.length<=100000)(D:B<=w.heap.size):Calls prog 120 #[tQ b,.int .u8 c] w fun e w'=>e=.returned .nilIface/\Zk B b (tQ b) (l++[.int .u8 c]) w'/\Below B w w':=by
 obtain⟨i0,t,z,A,C⟩:=info_parts uX;have r:=aA (QI B b l w h);go_enter func120,ntmps120;go_wp2_with fail;refine r.o.mono ?_;rintro e w1 ⟨rfl,⟨m,v,hbk,i,o⟩,a⟩;have c0:w1.cell? ⟨b,0,none⟩=some (tQ b):=by rw[Lib.cell_of_heap hbk];rfl
 have c1:w1.cell? ⟨b,1,none⟩=some v:=by rw[Lib.cell_of_heap hbk];rfl
 go_wp2_with (at_builtin;refine wpList_append_ownF _ rfl _ _ 75 rfl B 5 i0 (.int .u8 0) 1 1 underlying75 t z A C rfl qe _ _ _ rfl (i.alloc _) ⟨w1.heap.size,0,none⟩ 1 1 [.int .u8 c] rfl rfl ?c1 ?c2 ?c3 ?c4 ?c5 ?_)
 case c1=>
  intro j u hj
  match j,hj with
  |0,hj=>simp at hj;subst hj;simp[Addr.add]
 case c2=>intro u hu;simp at hu;subst hu;rfl
 case c3=>unfold maxLen;omega
 case c4=>omega
 case c5=>have:=a.size;simp;omega
 intro v' w2 hown' f _;have y:b<w1.heap.size:=by
  exact QDe
 have d:w2.heap[b]? =some (.cells #[tQ b,v] 205 (0,0)):=by
  rw[f.block b (by simp;omega) (fun e=>o e.symm),Lib.alloc_old w1 _ b y];exact hbk
 have n:Below B w w2:=(a.alloc (qA a.size) _).grown f (by have:=a.size;simp;omega) (fun k x=>(i.lt k x).1);have s:=aA (Lib.BuilderAtF.put (T:=205) (e:=5) (v':=v') m d (bs':=l++[.int .u8 c]) (by simpa using hown') qe);have q:=aA n;have d1:w2.cell? ⟨b,1,none⟩=some v:=by rw[Lib.cell_of_heap d];rfl
 have f1:w2.frozen? ⟨b,1,none⟩=false:=Lib.frozen_of_heap d 1;obtain⟨g,cap,rfl⟩:∃g cap,v'=.slice (some ⟨g,0,none⟩) (l.length+1) cap:=by
  exact QDm
 clear n hown' f d hbk i o a;go_wp2;go_ret;exact⟨rfl,s.o,q.o.setCell (p:=⟨b,1,none⟩) m _⟩
theorem ME(B b:Nat)(l:List Value)(s:bY)(w:World)(h:IG B b l w)(D:l.length<=100000)(F:0<s.size)(E:s.size<=100000)(C:B<=w.heap.size):Calls prog 121 #[tQ b,.string s] w fun e w'=>e=.returned (.tuple #[.int .i64 s.size,.nilIface])/\Zk B b (tQ b) (l++Lib.strCells s) w'/\Below B w w':=by
 obtain⟨i0,r,y,z,A⟩:=info_parts uX;have o:=aA (QI B b l w h);go_enter func121,ntmps121;go_wp2_with fail;refine o.o.mono ?_;rintro e w1 ⟨rfl,⟨i,v,hbk,f,m⟩,a⟩;have c0:w1.cell? ⟨b,0,none⟩=some (tQ b):=by rw[Lib.cell_of_heap hbk];rfl
 have c1:w1.cell? ⟨b,1,none⟩=some v:=by rw[Lib.cell_of_heap hbk];rfl
 go_wp2_with (at_builtin;refine Lib.wpList_append_own_stringF _ rfl _ _ 75 9 rfl B 5 i0 underlying75 underlying9 r y z A _ _ _ rfl f s rfl ?c3 ?c4 ?c5 ?_)
 case c3=>unfold maxLen;omega
 case c4=>omega
 case c5=>have:=a.size;omega
 intro v' w2 hown' d _;have x:b<w1.heap.size:=by
  exact QDe
 have c:w2.heap[b]? =some (.cells #[tQ b,v] 205 (0,0)):=by
  rw[d.block b x (fun e=>m e.symm)];exact hbk
 have j:Below B w w2:=a.grown d (qA a.size) (fun k t=>(f.lt k t).1);have q:=aA (Lib.BuilderAtF.put (T:=205) (e:=5) (v':=v') i c (bs':=l++Lib.strCells s) (by rw[aL,Lib.strCells_length];exact hown') qe);have n:=aA j;have d1:w2.cell? ⟨b,1,none⟩=some v:=by rw[Lib.cell_of_heap c];rfl
 have f1:w2.frozen? ⟨b,1,none⟩=false:=Lib.frozen_of_heap c 1;obtain⟨g,cap,rfl⟩:∃g cap,v'=.slice (some ⟨g,0,none⟩) (l.length+s.size) cap:=by
  exact QDm
 clear j hown' d c hbk f m a;go_wp2;go_ret2
 exact⟨rfl,q.o,n.o.setCell (p:=⟨b,1,none⟩) i _⟩
theorem QCM{p:Prop}(h:p:=by
 rintro e w2 ⟨rfl,hb⟩;have HB2:=qB HB1 hb;clear hb;go_wp2;go_ret;exact⟨by rw[HE4.o];rfl,HB2.o⟩):p:=h
theorem Zm{p:Prop}(h:p:=by
 rintro e w2 ⟨rfl,hb⟩;have HB2:=qB HB1 hb;clear hb;go_wp2;go_ret;exact⟨by rw[HE2.o];rfl,HB2.o⟩):p:=h
theorem Tt{p:Prop}(h:p:=by
 go_upto_region 8 with (fail)
 refine qN 14 (by kernel_rfl) (by kernel_rfl) ?_;simp only[List.take_succ_cons,List.take_zero,List.drop_succ_cons,List.drop_zero]
 repeat still_step
 refine wpStill_nil ?_;go_wp2_with fail;refine HQW.o.mono ?_;rintro e w2 ⟨rfl,hi,hb⟩;have HI2:=aA (HQR.o w2 (.inr hi));have HB2:=aA (HB.o.trans (Fk.trans hb));clear hi hb HI HB HQW HQR;go_wp2;go_roundw
 case rel=>exact⟨k+1,qo,by go_num,HI2,HB2⟩
 case measure=>simp[intOf];omega):p:=h
def Fj:ByteArray:=⟨#[48,49,50,51,52,53,54,55,56,57,97,98,99,100,101,102]⟩
theorem Lx:∀k:Fin 16,Fj.extract k.val (k.val+1)=⟨#[JL k.val]⟩:=by decide +kernel
theorem EG(a b:lU):Lib.byteCells a++Lib.byteCells b=Lib.byteCells (a++b):=by unfold Lib.byteCells;rw[List.map_append]
theorem QJ(l:lU):(Lib.byteCells l).length=l.length:=by unfold Lib.byteCells;rw[List.length_map]
def tH(l:lU):List UInt8:=34 ::l.flatMap uH
theorem BG(l:lU):(tH l).length<=1+3 * l.length:=by
 unfold tH;rw[List.length_cons];have h:(l.flatMap uH).length<=3 * l.length:=by
  induction l with
  |nil=>simp
  |cons c l a=>
   rw[List.flatMap_cons,aL,List.length_cons];have:(uH c).length<=3:=by unfold uH;split<;>simp
   omega
 omega
theorem QK(l:lU)(c:UInt8):tH (l++[c])=tH l++uH c:=by unfold tH;rw[List.flatMap_append,List.flatMap_cons,List.flatMap_nil,List.append_nil,List.cons_append]
theorem QL{c:UInt8}:fF c=true↔¬c.toNat<32/\¬126<c.toNat/\c.toNat≠34/\c.toNat≠92:=by
 unfold fF;simp only[Bool.and_eq_true,decide_eq_true_eq];omega
theorem Ly{s:bY}{k:Nat}(h:k<s.size):s.data.toList.take (k+1)=s.data.toList.take k++[s[k]]:=by
 rw[List.take_add_one,gE (by rw[Array.length_toList];exact h),Option.toList_some];rfl
theorem aAx:∀x:Fin 256,bits .and .u8 (x.val:Int) 15=((x.val % 16:Nat):Int):=by decide +kernel
theorem Mb:∀x:Fin 16,IntKind.u8.wrap ((x.val:Int)+1)=((x.val+1:Nat):Int):=by decide +kernel
theorem Fk{n:Nat}{w:World}:Below n w w.drew:=(Below.refl n w).drew
theorem Fl(s:bY)(R:s.size<=64)(w:World):Calls prog 68 #[.string s] w (lF (.string (bs (FM s.data.toList))) w):=by
 have y:Below w.heap.size w (w.alloc (.cells #[.pointer none,.slice none 0 0] 205)):=aB _ _;have z:IG w.heap.size w.heap.size (Lib.byteCells []) (w.alloc (.cells #[.pointer none,.slice none 0 0] 205)):= .inl ⟨lR _,.slice none 0 0,aM _ _ _ rfl,World.ownsRowF_of (World.ownsRow_nil _ _ _ _),by simp[Value.ownBlock]⟩;have o:=aA (fun (l:lU) (c:UInt8) (w1:World) (h:IG w.heap.size w.heap.size (Lib.byteCells l) w1) (Q:l.length<=1000) (hb:w.heap.size<=w1.heap.size)=>RT w.heap.size w.heap.size (Lib.byteCells l) (c.toNat:Int) w1 h (by rw[QJ];omega) hb);have r:=aA z;have n:=aA y;unfold lF;clear z y;go_enter func68,ntmps68;go_wp2_with fail;refine(o.o [] 34 _ r.o qs n.o.size).mono ?_;rintro e w1 ⟨rfl,hi,hb⟩;have HI:=aA (Or.inr hi:IG w.heap.size w.heap.size (Lib.byteCells (tH [])) w1);have HB:=aA (n.o.trans hb);clear hi hb r n;go_wp2;go_loopw [9] (fun i wr=>∃(k:Nat),k<=s.size/\i=.int .i64 k/\Hid (IG w.heap.size w.heap.size (Lib.byteCells (tH (s.data.toList.take k))) wr)/\Hid (Below w.heap.size w wr)) (fun i _=>s.size - (intOf i).toNat)
 case atStart=>exact⟨0,qo,rfl,HI,HB⟩
 case round=>
  obtain⟨k,P,rfl,HI,HB⟩:=hrel;by_cases E:k<s.size
  .have O:(s[k].toNat:Int)<256:=qA (s[k].toNat_lt);obtain⟨c,d⟩:=xE (s[k]);have A:s.data.toList.take (k+1)=s.data.toList.take k++[c]:=by rw[d];exact Ly E
   by_cases hp:fF c=true
   .obtain⟨m,p,q,B⟩:¬c.toNat<32/\¬126<c.toNat/\c.toNat≠34/\c.toNat≠92:=QL.1 hp;have d1:decide ((c.toNat:Int)<32)=false:=dF qo;have d2:decide ((c.toNat:Int) > 126)=false:=dF qo;have d3:((c.toNat:Int)==34)=false:=bN.2 qo;have d4:((c.toNat:Int)==92)=false:=bN.2 qo;rw[d] at d1 d2 d3 d4;go_wp2_with fail;refine(o.o _ s[k] _ HI.o (by have:=BG (s.data.toList.take k);rw[List.length_take] at this;omega) HB.o.size).mono ?_;rintro e w2 ⟨rfl,hi,hb⟩;have HI2:Hid (IG w.heap.size w.heap.size (Lib.byteCells (tH (s.data.toList.take (k+1)))) w2):=aA (by rw[A,QK,<-EG];unfold uH;rw[iP hp,d];exact .inr hi);have HB2:=aA (HB.o.trans hb);clear hi hb HI HB;go_wp2;go_roundw
    case rel=>exact⟨k+1,qo,by go_num,HI2,HB2⟩
    case measure=>simp[intOf];omega
   .have F:s[k].toNat<32\/(¬s[k].toNat<32/\126<s[k].toNat)\/(¬s[k].toNat<32/\¬126<s[k].toNat/\s[k].toNat=34)\/(¬s[k].toNat<32/\¬126<s[k].toNat/\s[k].toNat≠34/\s[k].toNat=92):=by
     rw[QL,d] at hp;omega
    obtain⟨a,ha⟩:=xE (s[k].toNat / 16);obtain⟨b,hb⟩:=xE (s[k].toNat % 16);have S:(s[k].toNat:Int) / 16=(a:Int):=qo;have qb:bits .and .u8 (s[k].toNat:Int) 15=(b:Int):=by rw[hb];exact aAx ⟨s[k].toNat,s[k].toNat_lt⟩
    have v:a<16:=qo;have x:b<16:=qo;have G:=Mb ⟨a,v⟩;have H:=Mb ⟨b,x⟩;have L:(0:Int)<=(a:Int):=qo;have a2:(a:Int)<=(a:Int)+1:=qo;have a3:(a:Int)+1<=16:=qo;have a4:(0:Int)<=(a:Int)+1:=qo;have b2:(b:Int)<=(b:Int)+1:=qo;have M:(b:Int)+1<=16:=qo;have N:(0:Int)<=(b:Int)+1:=qo;obtain⟨X,f⟩:∃X:bY,X=⟨#[JL a]⟩:=⟨_,rfl⟩;obtain⟨Y,g⟩:∃Y:bY,Y=⟨#[JL b]⟩:=⟨_,rfl⟩;have I:Fj.extract a (a+1)=X:=(Lx ⟨a,v⟩).trans f.symm;have J:Fj.extract b (b+1)=Y:=(Lx ⟨b,x⟩).trans g.symm;unfold Fj at I J;have U:X.size=1:=by rw[f];rfl
    have V:Y.size=1:=by rw[g];rfl
    have j:(⟨#[92]⟩++X++Y:bY)=⟨#[92,JL a,JL b]⟩:=by rw[f,g];rfl
    have HQW:=aA (ME w.heap.size w.heap.size (Lib.byteCells (tH (s.data.toList.take k))) (⟨#[92]⟩++X++Y) wr.drew HI.o (by rw[QJ];have:=BG (s.data.toList.take k);rw[List.length_take] at this;omega) (by rw[j];show 0<3;decide) (by rw[j];show 3<=100000;decide) HB.o.size);have HQR:Hid (∀w2:World,IG w.heap.size w.heap.size (Lib.byteCells (tH (s.data.toList.take k))++Lib.strCells (⟨#[92]⟩++X++Y)) w2->IG w.heap.size w.heap.size (Lib.byteCells (tH (s.data.toList.take (k+1)))) w2):=aA (fun w2 h=>by rw[A,QK,<-EG];rw[j] at h;unfold uH;rw[iN hp,d,<-ha,<-hb];exact h);have K:=aA (And.intro ha hb);clear f g j;clear ha hb;dsimp only at G H
    rcases F with m|⟨m,p⟩|⟨m,p,q⟩|⟨m,p,q,B⟩
    .have d1:decide ((s[k].toNat:Int)<32)=true:=dX qo;exact Tt
    .have d1:decide ((s[k].toNat:Int)<32)=false:=dF qo;have d2:decide ((s[k].toNat:Int) > 126)=true:=dX qo;exact Tt
    .have d1:decide ((s[k].toNat:Int)<32)=false:=dF qo;have d2:decide ((s[k].toNat:Int) > 126)=false:=dF qo;have d3:((s[k].toNat:Int)==34)=true:=bQ.2 qo;clear q;exact Tt
    .have d1:decide ((s[k].toNat:Int)<32)=false:=dF qo;have d2:decide ((s[k].toNat:Int) > 126)=false:=dF qo;have d3:((s[k].toNat:Int)==34)=false:=bN.2 qo;have d4:((s[k].toNat:Int)==92)=true:=bQ.2 qo;clear B;exact Tt
  .have D:k=s.size:=qo;rw[D,List.take_of_length_le (by rw[Array.length_toList];exact lR _)] at HI;go_wp2_with fail;refine(o.o _ 34 _ HI.o (by have:=BG s.data.toList;have h2:s.data.toList.length=s.size:=(by rw[Array.length_toList];rfl);omega) HB.o.size).mono ?_;rintro e w2 ⟨rfl,hi,hb⟩;have t:=aA (Builder_String_any_k w.heap.size w.heap.size (tH s.data.toList++[34]) w2 (by rw[<-EG];exact .inr hi) (HB.o.trans hb).size);have HB2:=aA (HB.o.trans hb);clear hi hb HI HB;go_wp2_with fail;refine t.o.mono ?_;rintro e T ⟨rfl,-,hb,-⟩;have C:=aA (HB2.o.trans hb);clear hb t HB2;go_wp2;go_ret;exact⟨rfl,C.o⟩
theorem Fm(B:Nat)(w:World)(k:Nat)(os:Array Obj)(h:B<=w.heap.size):Below B w (Go.Sort.grow (w.drewN k) os):=by
 have h1:Below B w (w.drewN k):=fL (Below.refl B w) ⟨k,rfl⟩;have h2:w.heap.size<=(w.drewN k).heap.size:=h1.size;exact⟨h1.os,h1.tape,h1.output,by show _<=((w.drewN k).heap++os).size;rw[Array.size_append];omega,fun j hj=>by
  show ((w.drewN k).heap++os)[j]? =_;rw[Array.getElem?_append_left qo];exact h1.block j hj⟩
theorem BH(n:Int)(a:bO n)(w:World)(b:Gl w):Calls prog 29 #[.int .i64 n] w (lF (.string (bs (mL n))) w):=by
 refine(strconv_Itoa n a.1 a.2 w b.tab).mono ?_;rintro e w' ⟨rfl,k,os,rfl⟩;exact⟨rfl,Fm _ w k os (lR _)⟩
theorem Bh(b:Bool)(w:World):Calls prog 67 #[.bool b] w (lF (.string (bs (if b=true then fC "true" else fC "false"))) w):=by
 refine(strconv_FormatBool b w).mono ?_;rintro e w' ⟨rfl,rfl⟩;refine⟨?_,Below.refl _ _⟩
 cases b<;>rfl
theorem Rj{v:V3}(h:aU v=false):vI v=[]:=iP h
theorem Rk{k n:Int}{s:bY}(h:aU (k,n,s)=true):vI (k,n,s)=(if k=1 then (if n=1 then fC "true" else fC "false") else if k=4 then [64]++mL n else if k=5 then [35]++s.data.toList else if k=3 then FM s.data.toList else mL n):=by
 unfold vI;rw[iN (by rw[h];decide)]
theorem II{n:Int}{s:bY}(h:aU (3,n,s)=true):s.size<=64:=by
 unfold aU at h;simp at h;exact h.2
theorem uI(n:Int)(b:bO n):(bs (mL n)).size<=100:=by
 have a:∀k u:Nat,u<10 ^ (k+1)->(Lib.decDigits u).length<=k+1:=by
  intro k
  induction k with
  |zero=>intro u hu;rw[Lib.decDigits_one qo];exact lR _
  |succ k c=>
   intro u hu;rw[Lib.decDigits];split
   .simp
   .rw[aL];have:=c (u / 10) (by rw[Nat.pow_succ] at hu;omega);simp only[List.length_cons,List.length_nil];omega
 have h0:=b.1;have h1:=b.2;have h2:(bs (mL n)).size=(mL n).length:=by unfold bs;exact List.size_toArray
 rw[h2];unfold mL Lib.itoa;split
 .have:=a 19 n.natAbs qo;rw[List.length_cons];omega
 .have:=a 19 n.toNat qo;omega
theorem Mc(v:V3)(x:cZ v)(w:World)(C:Gl w):Calls prog 30 #[dH v] w (lF (.string (bs (vI v))) w):=by
 obtain⟨k,n,s⟩:=v;obtain⟨W0,i⟩:=xE (w.alloc (.cells #[.int .i64 k,.int .i64 n,.string s] 64));have r:Below w.heap.size w W0:=by rw[i];exact aB _ _
 have R:Hid (W0.heap[w.heap.size]? =some (.cells #[.int .i64 k,.int .i64 n,.string s] 64 (0,0))):=aA (by rw[i];exact aM _ _ _ rfl);obtain⟨O,t⟩:=xE (vI (k,n,s));rw[<-t];obtain⟨A,J,f,z,I,N⟩:=hD6 (nL k n s (by have:s.size<=cV:=x.2.2;unfold cV at this;unfold maxLen;omega) W0) (C.on r) x t r i;unfold lF dH;clear r i C x t;obtain⟨⟨E,F,G⟩,-⟩:=cF R.o;have H:=aE R.o;go_enter func30,ntmps30;go_upto_region 1 with (fail)
 rw[<-N.o];go_wp2_with fail;refine A.o.mono ?_;rintro e w1 ⟨rfl,hb⟩;obtain⟨HB1,B,y⟩:=bA (aC I.o hb) (aF R.o hb) (J.o.on hb);clear E F G H hb A;obtain⟨⟨E,F,G⟩,-⟩:=cF B.o;have H:=aE B.o
 cases g:aU (k,n,s)
 .have c:=aA (z.o.trans (Rj g));go_wp2;go_ret;exact⟨by rw[c.o];rfl,HB1.o⟩
 .have c:=aA (z.o.trans (Rk g));have M:=aA g;clear g;by_cases j:k=1
  .have b:=aA (c.o.trans (iP j));subst j;by_cases a:n=1
   .have d1:(n==(1:Int))=true:=bQ.2 a;have p:=aA (Bh true w1);have HE2:=aA (b.o.trans (iP a));clear a;go_wp2_with fail;refine p.o.mono ?_;exact Zm
   .have d1:(n==(1:Int))=false:=bN.2 a;have p:=aA (Bh false w1);have HE2:=aA (b.o.trans (iN a));clear a;go_wp2_with fail;refine p.o.mono ?_;exact Zm
  .have c1:(k==(1:Int))=false:=bN.2 j;have b:=aA (c.o.trans (iN j));by_cases m:k=4
   .have HE2:=aA (b.o.trans (iP m));subst m;have q:=aA (BH n f.o.2.1 w1 y.o);have D:=uI n f.o.2.1;generalize mL n=L at *;go_wp2_with fail;refine q.o.mono ?_;exact Zm
   .have c4:(k==(4:Int))=false:=bN.2 m;have HE2:=aA (b.o.trans (iN m));by_cases o:k=5
    .have d:=aA (HE2.o.trans (iP o));subst o;have D:s.size<=cV:=f.o.2.2;unfold cV at D;go_wp2;go_ret;exact⟨by rw[d.o];rfl,HB1.o⟩
    .have c5:(k==(5:Int))=false:=bN.2 o;have d:=aA (HE2.o.trans (iN o));by_cases l:k=3
     .have HE4:=aA (d.o.trans (iP l));subst l;have K:=aA (Fl s (II M.o) w1);go_wp2_with fail;refine K.o.mono ?_;exact QCM
     .have c3:(k==(3:Int))=false:=bN.2 l;have HE4:=aA (d.o.trans (iN l));have q:=aA (BH n f.o.2.1 w1 y.o);go_wp2_with fail;refine q.o.mono ?_;exact QCM
theorem QAl{p:Prop}(h:p:=by
 by_cases z5:0<r.at_
 .have HN2:=aA (HN.o.trans (iP ⟨z0,z5⟩));have d5:decide (r.at_ > (0:Int))=true:=dX z5;have p0:∀p:In (BL W0),p.w.cell? ⟨w.heap.size,0,none⟩=some (.int .i64 r.err):=fun p=>(p.h.cell zr).trans r0
  have p7:∀p:In (BL W0),p.w.cell? ⟨w.heap.size,7,none⟩=some (.int .i64 r.at_):=fun p=>(p.h.cell zr).trans r7
  have HX:=aA (fun (n:Int) (hn:bO n) w' (hb':Below W0.heap.size W0 w')=>(BH n hn w' (HG.o.on hb')).mono fun e w2 (h:lF _ w' e w2)=>(⟨h.1,aC hb' h.2⟩:e=_/\Below W0.heap.size W0 w2));have hs1:=uI r.err HE.o;have hs2:=uI r.at_ HA.o;have HX1:=aA (HX.o r.err HE.o);have HX2:=aA (HX.o r.at_ HA.o);obtain⟨L1,hL1⟩:=xE (mL r.err);obtain⟨L2,hL2⟩:=xE (mL r.at_);rw[<-hL1,<-hL2] at HN2;rw[<-hL1] at hs1 HX1;rw[<-hL2] at hs2 HX2;obtain⟨l1,hl1⟩:=xE (bs L1);obtain⟨l2,hl2⟩:=xE (bs L2);rw[<-hl1] at hs1 HX1;rw[<-hl2] at hs2 HX2;have HL1:=aA hl1;have HL2:=aA hl2;clear hL1 hL2 z0 z5 HX hl1 hl2;go_upto_region 4 with (fail)
  refine CG (C:=BL W0) (by kernel_rfl) (by kernel_rfl) (SP W0) ?_
  repeat (go_big_quiet_step (first|exact in_call fun w' hb=>HX1.o w' hb|exact in_call fun w' hb=>HX2.o w' hb))
  refine wpQuiet_nil ?_;intro w2 hb2;have HB2:=qB HB0 (show Below W0.heap.size W0 w2 from hb2);clear hb2;go_wp2;go_ret;exact⟨by rw[HN2.o,HL1.o,HL2.o];rfl,HB2.o⟩
 .have HN2:=aA (HN.o.trans ((iN (fun h=>z5 h.2)).trans (iP z0)));have d5:decide (r.at_ > (0:Int))=false:=dF z5;have HX:=aA (BH r.err HE.o W0 HG.o);have hs1:=uI r.err HE.o;generalize mL r.err=L1 at *;clear z0 z5;go_wp2_with fail;refine HX.o.mono ?_;rintro e w2 ⟨rfl,hb⟩;have HB2:=qB HB0 hb;clear hb;go_wp2;go_ret;exact⟨by rw[HN2.o];rfl,HB2.o⟩):p:=h
theorem Md(m:Mk):Cm.bV m=bs (FL m):=by
 unfold Cm.bV FL;split
 .rfl
 split
 .rfl
 split
 .rfl
 split
 .rfl
 split
 .rfl
 split
 .rfl
 rfl
theorem Me(m:Mk):(bs (FL m)).size<=100:=by
 unfold FL
 repeat (split;(· decide))
 decide
theorem Mf(v:V3)(a:cZ v):(bs (vI v)).size<=1000100:=by
 have b:=uI v.2.1 a.2.1;rw[cJ] at b ⊢;have e:v.2.2.data.toList.length<=1000000:=by rw[Array.length_toList];exact a.2.2
 unfold vI;split
 .simp
 rename_i c;split
 .split<;>decide
 split
 .rw[aL];simp only[List.length_cons,List.length_nil];omega
 split
 .rw[aL];simp only[List.length_cons,List.length_nil];omega
 split
 .rename_i h3;have h64:v.2.2.size<=64:=II (n:=v.2.1) (s:=v.2.2) (by
   have h4:v=(3,v.2.1,v.2.2):=by rw[<-h3]
   rw[<-h4];simpa using c)
  have d:=BG v.2.2.data.toList;have h5:v.2.2.data.toList.length=v.2.2.size:=by rw[Array.length_toList];rfl
  have h6:FM v.2.2.data.toList=tH v.2.2.data.toList++[34]:=rfl;rw[h6,aL];simp only[List.length_cons,List.length_nil];omega
 .omega
theorem Fo(r:Rpl)(hm:Cm.QP r.mark)(A:cZ r.val)(he:bO r.err)(ha:bO r.at_)(w:World)(z:Gl w):Calls prog 14 #[.agg (eX r)] w (lF (.string (FN r)) w):=by
 obtain⟨O,q⟩:=xE (Bc r);unfold FN;rw[<-q];obtain⟨k,B,v,HE,HA⟩:=gG q (Cm.AJ r.mark hm) A he ha;obtain⟨W0,c⟩:=xE (w.alloc (.cells (eX r) 73));have o:Below w.heap.size w W0:=by rw[c];exact aB _ _
 have R:Hid (W0.heap[w.heap.size]? =some (.cells (eX r) 73 (0,0))):=aA (by rw[c];exact aM _ _ _ rfl);have HB0:=aA o;have HG:=aA (z.on o);unfold eX at c R ⊢;have D:=aA c;unfold lF;clear o c q A he ha z;obtain⟨⟨r0,I,J,K,M,N,P,r7⟩,-⟩:=nR R.o;have zr:=aE R.o;obtain⟨y,s⟩:∃b,decide (r.mark=((4,0):Mk))=b:=⟨_,rfl⟩;have G:((FloatKind.f64.format.order (Cm.qb r.mark.1) 4607182418800017408==some .eq)&&(FloatKind.f64.format.order (Cm.qb r.mark.2) 0==some .eq))=y:=(Cm.iW r.mark.1 r.mark.2 4 0 hm qe qe).trans ((sE r.mark (4,0)).trans s);have t:=aA s;clear s hm;go_enter func14,ntmps14;go_upto_region 1 with (fail)
 rw[<-D.o];by_cases h12:r.err=12
 .have d12:(r.err==(12:Int))=true:=bQ.2 h12;have z0:r.err≠0:=qo;have m:(r.err != (0:Int))=true:=bne_iff_ne.2 z0
  cases y
  .have HN:=aA (k.o.trans (iP ⟨h12,of_decide_eq_false t.o⟩));have H:=Me r.mark;have l:=aA (B.o W0);rw[Md r.mark] at l;clear h12 z0 m;generalize FL r.mark=L at *;unfold Cm.mk at l;go_wp2_with fail;refine l.o.mono ?_;rintro e w1 ⟨rfl,rfl⟩;go_wp2;go_ret;exact⟨by rw[HN.o];rfl,HB0.o⟩
  .have HN:=aA (k.o.trans (iN (fun h=>h.2 (of_decide_eq_true t.o))));clear h12;exact QAl
 .have d12:(r.err==(12:Int))=false:=bN.2 h12;have HN:=aA (k.o.trans (iN (fun h=>h12 h.1)));clear h12;by_cases z0:r.err=0
  .have m:(r.err != (0:Int))=false:=by rw[z0];rfl
   have HN2:=aA (HN.o.trans ((iN (fun h=>h.1 z0)).trans (iN (fun h=>h z0))));clear z0;by_cases g:r.aDw=true
   .have d:=aA (HN2.o.trans (iP g));go_wp2;go_ret;exact⟨by rw[d.o];rfl,HB0.o⟩
   .have d:=aA (HN2.o.trans (iN g));have dg:r.aDw=false:=by simpa using g
    clear g;by_cases i:r.hidden=true
    .have f:=aA (d.o.trans (iP i));go_wp2;go_ret;exact⟨by rw[f.o];rfl,HB0.o⟩
    .have f:=aA (d.o.trans (iN i));have F:r.hidden=false:=by simpa using i
     clear i;by_cases a:r.val=bF
     .have j:=aA (f.o.trans (iN (fun h=>h a)));have E:∀w,Sem.run prog (binOp .neq 64 (.agg #[.int .i64 r.val.1,.int .i64 r.val.2.1,.string r.val.2.2]) (.agg #[.int .i64 0,.int .i64 0,.string ⟨#[]⟩])) w=.ok (.bool false) w:=fun w=>(yT r.val bF w).trans (by rw[dX a];rfl)
      clear a;go_wp2;go_ret;exact⟨by rw[j.o];rfl,HB0.o⟩
     .have j:=aA (f.o.trans (iP a));have E:∀w,Sem.run prog (binOp .neq 64 (.agg #[.int .i64 r.val.1,.int .i64 r.val.2.1,.string r.val.2.2]) (.agg #[.int .i64 0,.int .i64 0,.string ⟨#[]⟩])) w=.ok (.bool true) w:=fun w=>(yT r.val bF w).trans (by rw[dF a];rfl)
      have HX:=aA (Mc r.val v.o W0 HG.o);have hs1:=Mf r.val v.o;unfold dH at HX;clear a;generalize vI r.val=L at *;go_wp2_with fail;refine HX.o.mono ?_;rintro e w2 ⟨rfl,hb⟩;have HB2:=qB HB0 hb;clear hb;go_wp2;go_ret;exact⟨by rw[j.o];rfl,HB2.o⟩
  .have m:(r.err != (0:Int))=true:=bne_iff_ne.2 z0;exact QAl
structure eH (p:PS):Prop where
 b0:0<=p.bad
 b1:p.bad<=100
 q0:0<=p.place
 q1:p.place<=1000000
section
variable {L:List Tok} (T:Toks L)
theorem WY{e q:Int}{p:PS}(h:eH p)(h0:0<=e)(h1:e<=100)(h2:0<=q)(h3:q<=1000000):eH (eQ e q p):=by
 unfold eQ;split
 .exact⟨h0,h1,h2,h3⟩
 .exact h
include T
theorem Wm(p:PS):0<=(aW L p).at_/\(aW L p).at_<=4096:=by
 unfold aW
 rcases h:L[p.at_]? with _|t
 .exact⟨qe,qe⟩
 .exact T.place t (List.mem_of_getElem? h)
theorem BI{e:Int}(r:PS){p:PS}(h:eH p)(h0:0<=e)(h1:e<=100):eH (eQ e (aW L r).at_ p):=by
 have:=Wm T r;exact WY h h0 h1 this.1 qo
theorem pI{p:PS}(h:eH p):eH (dN L p):=BI T p h qe qe
theorem tI(b:Bool){p:PS}(h:eH p):eH (cW L b p):=by
 unfold cW;split
 .exact BI T p h qe qe
 .exact h
omit T in
theorem nD{p:PS}{n:Nat}(h:eH p):eH {p with at_:=n}:=⟨h.b0,h.b1,h.q0,h.q1⟩
omit T in
theorem Wn(s:bY){p:PS}(h:eH p):eH (kO L s p).2:=by
 unfold kO;split
 .exact nD h
 .exact h
theorem pR(s:bY){p:PS}(h:eH p):eH (eI L s p):=by
 unfold eI;split
 .exact nD h
 .exact pI T h
theorem zD{p:PS}(h:eH p):eH (bV L p).2:=by
 unfold bV;dsimp only;by_cases a:(aW L p).aC3≠1
 .rw[iP a];split
  .exact pI T h
  .exact nD (pI T h)
 .rw[iN a];split
  .exact h
  .exact nD h
theorem pJ(words:List ByteArray){p:PS}(h:eH p):eH (bB L words p).2:=by
 unfold bB;dsimp only;split
 .exact nD h
 .exact pI T h
theorem Bi{p:PS}(h:eH p):eH (cG L p).2:=by
 unfold cG;dsimp only;exact Wn _ (zD T (pR T _ (pJ T _ h)))
theorem QM{p:PS}(h:eH p):eH (eS L p).2:=by
 unfold eS;dsimp only
 repeat (split;(· exact h))
 exact pI T h
theorem WZ{p:PS}(h:eH p):eH (dE L p).2:=by
 rw[zL];split
 .exact QM T h
 .exact nD (QM T h)
theorem aAy{p:PS}(h:eH p):eH (sK L p).2:=by
 unfold sK
 repeat (split;(· exact nD h))
 exact pI T h
theorem XA{p:PS}(h:eH p):eH (eD L p).2:=by
 unfold eD;dsimp only;exact WZ T (aAy T (Bi T h))
theorem zE{α:Type}{one:PS->α×PS}(a:∀{p:PS},eH p->eH (one p).2)(sep:bY):∀(f:Nat) (l:List α) {p:PS},eH p->eH (jV L one sep f l p).2
 |0,l,p,h=>h
 |f+1,l,p,h=>by
  unfold jV;split
  .exact zE a sep f _ (tI T _ (a (nD h)))
  .exact h
theorem Mg{p:PS}(h:eH p):eH (jB L p).2:=by
 unfold jB;dsimp only;exact zE T (XA T) _ _ _ (XA T h)
theorem Mh{p:PS}(h:eH p):eH (mE L p).2:=by
 unfold mE;dsimp only;exact pR T _ (zE T (Mg T) _ _ _ (Mg T (pR T _ h)))
theorem EH{p:PS}(h:eH p):eH (bW L p).2:=by
 unfold bW;split
 .dsimp only;exact zE T (Mh T) _ _ _ (Mh T (nD h))
 .exact h
theorem Wo{p:PS}(h:eH p):eH (tJ L p).2:=by
 unfold tJ;dsimp only;exact zD T (pJ T _ (pJ T _ h))
theorem BJ{p:PS}(h:eH p):eH (gO L p).2:=zE T (Wo T) _ _ _ h
theorem Bj:∀(f:Nat) (l:List No) {p:PS},eH p->eH (eY L f l p).2
 |0,l,p,h=>by unfold eY;exact h
 |f+1,l,p,h=>by
  have c:∀{l:List No} {p:PS} (must:Bool),eH p->eH (dI L f (l,p) must).2:=by
   intro l p must h;unfold dI;dsimp only;split
   .exact h
   .have h1:=Bj f l h;split
    .exact BI T _ h1 qe qe
    .exact h1
  have b:∀(ms:List Bool) {l:List No} {p:PS},eH p->eH (ms.foldl (dI L f) (l,p)).2:=by
   intro ms
   induction ms with
   |nil=>intro l p h;exact h
   |cons m ms d=>
    intro l p h;have h1:=c (l:=l) m h;exact d h1
  unfold eY;dsimp only;by_cases a:cO L (str "(") p=true
  .rw[iP a];exact tI T _ (pR T _ (b (fN (2+(bB L eC {p with at_:=p.at_+1}).1)) (l:=l) (pJ T _ (nD h))))
  .rw[iN a];split
   .exact tI T _ (Bi T h)
   .exact tI T _ (WZ T h)
theorem Fp(l:List No)(must:Bool){p:PS}(h:eH p):eH (jD L l must p).2:=by
 unfold jD;dsimp only;have h1:=Bj T L.length l h;split
 .exact BI T _ h1 qe qe
 .exact h1
theorem Wp(deny:Bool){p:PS}(h:eH p):eH (kP L deny p).2:=by
 unfold kP;dsimp only;refine pR T _ (BJ T ?_);have h2:=EH T (zD T h);split
 .exact Fp T _ _ (nD h2)
 .exact h2
theorem NT:∀(f:Nat) (l:List Ru) {p:PS},eH p->eH (iL L f l p).2
 |0,l,p,h=>by unfold iL;exact h
 |f+1,l,p,h=>by
  unfold iL;split
  .dsimp only;have h1:=tI T (decide (l.length=16)||decide (p.aC6=64)) h;split
   .exact h1
   .exact NT f _ (Wp T _ ⟨h1.b0,h1.b1,h1.q0,h1.q1⟩)
  .exact h
theorem NU{one:PS->Po×PS}(a:∀{p:PS},eH p->eH (one p).2)(deep:Bool):∀(f:Nat) (l:List Po) {p:PS},eH p->eH (gP L one deep f l p).2
 |0,l,p,h=>by unfold gP;exact h
 |f+1,l,p,h=>by
  unfold gP;split
  .dsimp only;have h1:=tI T (decide (l.length=16)||deep) h;split
   .exact h1
   .exact NU a deep f _ (a h1)
  .exact h
theorem Mi:∀(n:Nat) {p:PS},eH p->eH (cT L n p).2:=by
 intro n
 induction n with
 |zero=>
  intro p h;unfold cT;dsimp only;refine BJ T (pR T _ ?_);have h5:=pR T qY (EH T (pJ T dK (zD T (pJ T [str "policy",str "set"] h))));split
  .exact NU T (one:=fun q=>(mD,q)) (fun h=>h) true L.length [] h5
  .exact NT T L.length [] h5
 |succ n a=>
  intro p h;unfold cT;dsimp only;refine BJ T (pR T _ ?_);have h5:=pR T qY (EH T (pJ T dK (zD T (pJ T [str "policy",str "set"] h))));split
  .exact NU T a false L.length [] h5
  .exact NT T L.length [] h5
end
def Sm(x:List Tok×Int×Int):Prop:=0<=x.2.1/\x.2.1<=100/\0<=x.2.2/\x.2.2<=1000000
theorem Mj{n:Nat}(h:n<=10000):Sm ([],5,(n:Int)):=⟨by show (0:Int)<=5;decide,by show (5:Int)<=100;decide,by show (0:Int)<=(n:Int);omega,by show (n:Int)<=1000000;omega⟩
theorem Zn(l:List Tok):Sm (l,0,0):=⟨by show (0:Int)<=0;decide,by show (0:Int)<=100;decide,by show (0:Int)<=0;decide,by show (0:Int)<=1000000;decide⟩
theorem JO:∀(f:Nat) (l:lU) (n:Nat) (out:List Tok),n+l.length<=4096->Sm (jL f l n out)
 |0,l,n,out,h=>Mj qo
 |f+1,[],n,out,h=>Zn _
 |f+1,c::r,n,out,h=>by
  have a:=(qG (c::r) qo).le;rw[List.length_cons] at h a;unfold jL;dsimp only;split
  .exact JO f r (n+1) out qo
  .split
   .exact Mj qo
   .refine JO f _ _ _ ?_;rw[List.length_drop,List.length_cons];omega
theorem Zo(l:lU):Sm (jP l):=by
 unfold jP;split
 .exact⟨by show (0:Int)<=6;decide,by show (6:Int)<=100;decide,by show (0:Int)<=4096;decide,by show (4096:Int)<=1000000;decide⟩
 .exact JO _ _ _ _ qo
theorem Zp{l:List Tok}(T:Toks l)(S:bY)(b:S.size<=1000000)(X:Po×PS)(a:eH X.2):eH (wO S X.1 (Ar l X.2)):=by
 have h2:eH (Ar l X.2):=by
  unfold Ar;split
  .exact pI T a
  .exact a
 unfold wO;split
 .exact WY h2 qe qe qo qo
 .exact h2
theorem Zq(P:Po){p:PS}(h:eH p):(0<=(uQ P p).2.1/\(uQ P p).2.1<=100)/\0<=(uQ P p).2.2/\(uQ P p).2.2<=1000000:=by
 unfold uQ;split
 .exact⟨⟨h.b0,h.b1⟩,h.q0,h.q1⟩
 .exact⟨⟨Int.le_refl _,by show (0:Int)<=100;decide⟩,Int.le_refl _,by show (0:Int)<=1000000;decide⟩
theorem XB(S:bY)(c:S.size<=1000000):(0<=(fG S).2.1/\(fG S).2.1<=100)/\0<=(fG S).2.2/\(fG S).2.2<=1000000:=by
 have h:=Zo S.data.toList;have b:=SV (l:=S.data.toList);obtain⟨x,a⟩:=xE (jP S.data.toList);rw[<-a] at h b;obtain⟨l,e,q⟩:=x;by_cases he:e=0
 .subst he;have T:=(b rfl).1;rw[PQ a.symm];exact Zq _ (Zp T S c _ (Mi T 3 ⟨qe,qe,qe,qe⟩))
 .rw[VP a.symm he];exact⟨⟨h.1,h.2.1⟩,h.2.2.1,h.2.2.2⟩
structure NV (r:Rpl):Prop where
 mark:Cm.QP r.mark
 val:cZ r.val
 err:bO r.err
 at_:bO r.at_
theorem xQ:cZ bF:=⟨by unfold bF bO;simp,by unfold bF bO;simp,Nat.zero_le _⟩
theorem Fq{w:World}{ok:nP}{s:Sto}{vc vr vn vo vt vu vk vb:Value}{N:bY}{c:cI}(h:fB w ok s vc vr vn vo vt vu vk vb)(a:eV s N=some c)(F:bY):cZ (gL c F):=by
 rcases EZ s N with ⟨e,_⟩|⟨k,n,_,e⟩
 .rw[e] at a;cases a
 .rw[e] at a;injection a with a;subst a;have g:=h.aC2;obtain⟨o,p,rfl,_⟩:=g.slice;obtain⟨b,off,r,_,_,_,⟨v,x,_,m⟩,_⟩:=aI.at dV g n qe;have i:=m.2.2.2.1;obtain⟨q,t,rfl,_⟩:=i.slice;unfold gL
  rcases d:s.aC2[k].aC9.find? (fun f=>decide (f.1=F)) with _|f
  .rw[d];exact xQ
  .rw[d];obtain⟨j,hj,he⟩:=List.getElem_of_mem (List.mem_of_find?_eq_some d);obtain⟨_,_,_,_,_,_,⟨_,l⟩,_⟩:=aI.at bU i hj qe;rw[he] at l;exact l.2
theorem ZE(s:Sto)(o:Op):0<=eE s o/\eE s o<=100:=by
 unfold eE iJ iU
 repeat' split
 all_goals exact⟨qe,qe⟩
theorem Ml(g:List Gv)(p:Po):0<=(iI g p).2/\(iI g p).2<=1:=by
 unfold iI rM
 repeat' split
 all_goals first|exact⟨qe,qe⟩|exact⟨Int.le_refl _,by show (0:Int)<=1;decide⟩
theorem qW{n:Int}(h0:0<=n)(h1:n<=1000000):bO n:=by unfold bO;omega
theorem XC:bO 0:=qW (Int.le_refl _) qe
theorem Wq{c:Prop}[Decidable c]{x y:Sto×Rpl×Option Deci×Int}(a:NV x.2.1)(b:NV y.2.1):NV (if c then x else y).2.1:=by
 split
 .exact a
 .exact b
theorem NX{e q:Int}(he:bO e)(a:bO q):NV {qP with err:=e,at_:=q}:=⟨⟨Nat.zero_le _,Nat.zero_le _⟩,xQ,he,a⟩
theorem Rl{w:World}{ok:nP}{s:Sto}{vc vr vn vo vt vu vk vb:Value}(h:fB w ok s vc vr vn vo vt vu vk vb)(o:Op)(g:o.text.size<=1000000):NV (cQ s o).2.1:=by
 have i:=ZE s o;have hp:=XB o.text g;have j:=Ml (pX s o) s.aC4;have h1:bO (oN s o).1/\bO (oN s o).2:=by
  unfold oN;split
  .exact⟨qW hp.1.1 qo,qW hp.2.1 hp.2.2⟩
  .exact⟨qW i.1 qo,XC⟩
 by_cases a:(oN s o).1≠0
 .rw[LV a];exact NX h1.1 h1.2
 .have b:(oN s o).1=0:=by simpa using a
  by_cases d:(iI (pX s o) s.aC4).2≠0
  .rw[LW b d];exact NX (qW j.1 qo) h1.2
  .rw[LX b rfl (by simpa using d) rfl rfl rfl rfl rfl];refine Wq (NX (e:=6) (qW qe qe) h1.2) ?_
   .refine⟨(vH _ _).1,?_,?_,XC⟩
    .unfold oA;dsimp only;split
     .rcases f:eV s o.aDa with _|c
      .exact xQ
      .exact Fq h f o.aDn
     .exact xQ
    .unfold oA;dsimp only;split
     .exact XC
     .exact qW qe qe
end Go.Proofs.YtkglnboglppgnaaGreatDoor
