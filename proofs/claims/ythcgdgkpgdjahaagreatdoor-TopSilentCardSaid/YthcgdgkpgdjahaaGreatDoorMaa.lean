/- Lemmas. -/
import Derived.WalkKit
import Derived.WalkSpells
import Derived.WalkLawsBesides
import Derived.Handy
import Derived.Laws.OwnMore
import Derived.Laws.BitsAllLaws
import Derived.Deep.Draws
import Derived.Maps.AppendAt
import Derived.Deep.AppendLies
import Derived.RegionTactic
import Derived.OwnWalk
import Derived.Test.YthcgdgkpgdjahaaGreatDoorRows
import Derived.Deep.LoopGhost
import Derived.Lib.AppendStr
namespace Go.RowKit
theorem Hid.o{p:Prop}(h:Hid p):p:=h
end Go.RowKit
namespace Go.Proofs.YthcgdgkpgdjahaaGreatDoor
open Go.RowKit
set_option linter.unusedVariables false
set_option linter.unusedSimpArgs false
set_option maxHeartbeats 16000000
open _root_.Go.Proofs.Tryz
universe u
theorem bN{α}[BEq α][LawfulBEq α]{a b:α}:(a==b)=false↔a≠b:=beq_eq_false_iff_ne
theorem dF{p:Prop}[Decidable p]:¬p→decide p=false:=decide_eq_false
theorem dX{p:Prop}[Decidable p]:p→decide p=true:=decide_eq_true
theorem lR(n:Nat):n≤n:=Nat.le_refl n
theorem iN{c:Prop}{h:Decidable c}(k:¬c){α:Sort u}{t e:α}:ite c t e=e:=if_neg k
theorem iP{c:Prop}{h:Decidable c}(k:c){α:Sort u}{t e:α}:ite c t e=t:=if_pos k
theorem lL{a b c:Nat}:a<b→b≤c→a<c:=Nat.lt_of_lt_of_le
theorem lT{a b c:Nat}:a≤b→b≤c→a≤c:=Nat.le_trans
theorem bQ{α}[BEq α][LawfulBEq α]{a b:α}:a==b↔a=b:=beq_iff_eq
theorem aL{α:Type u}{a b:List α}:(a++b).length=a.length+b.length:=List.length_append
theorem gE{α:Type u}{l:List α}{i:Nat}(h:i<l.length):l[i]? =some l[i]:=List.getElem?_eq_getElem h
abbrev lU:=List UInt8
abbrev oD:=Option Addr
abbrev nP:=Nat→Prop
abbrev bY:=ByteArray
theorem qo{p:Prop}(h:p:=by omega):p:=h
theorem xE{α:Sort u}(x:α):∃y,y=x:=⟨_,rfl⟩
theorem qA{a p:Prop}(h:a)(k:a→p:=by intro;omega):p:=k h
theorem qD{a b p:Prop}(h:a)(i:b)(k:a→b→p:=by intros;omega):p:=k h i
theorem qF{a b c p:Prop}(h:a)(i:b)(j:c)(k:a→b→c→p:=by intros;omega):p:=k h i j
theorem qe{p:Prop}(h:p:=by decide):p:=h
theorem qs{p:Prop}(h:p:=by simp):p:=h
theorem qh{p:Prop}(h:p:=by intro h;have h1:=h.1;have h2:=h.2;omega):p:=h
set_option maxRecDepth 20000
theorem QAB{p:Prop}(h:p:=by
 have hm:=Int.tmod_lt_of_pos n (show 0<hi - lo+1 by omega);have hm2: -(hi - lo+1)<n.tmod (hi - lo+1):=by have:=Int.lt_tmod_of_pos n (show 0<hi - lo+1 by omega);omega
 have hme:=aA (Int.tmod_eq_emod (a:=n) (b:=hi - lo+1));by_cases h0:n.tmod (hi - lo+1)<0
 .have he:jV n lo hi=lo+(n.tmod (hi - lo+1)+hi - lo+1):=by
   unfold jV;have:=Int.emod_nonneg n (show hi - lo+1≠0 by omega);have:=Int.emod_lt_of_pos n (show 0<hi - lo+1 by omega);have h4:=hme.o;split at h4
   .omega
   .rw[h4];omega
  have He:=aA he;clear hme he;go_enter func6,ntmps6;go_wp2;go_ret;exact⟨by rw[He.o];rfl,rfl⟩
 .have he:jV n lo hi=lo+n.tmod (hi - lo+1):=by
   unfold jV;have:=Int.emod_nonneg n (show hi - lo+1≠0 by omega);have:=Int.emod_lt_of_pos n (show 0<hi - lo+1 by omega);have h4:=hme.o;split at h4
   .omega
   .exfalso;omega
  have He:=aA he;clear hme he;go_enter func6,ntmps6;go_wp2;go_ret;exact⟨by rw[He.o];rfl,rfl⟩):p:=h
theorem aA{p:Prop}(h:p):Hid p:=h
theorem TH{a b c d e p5 p6 p7:Prop}(f:a)(g:b)(i:c)(j:d)(k:e)(l:p5)(m:p6)(n:p7):Hid a/\Hid b/\Hid c/\Hid d/\Hid e/\Hid p5/\Hid p6/\Hid p7:=⟨f,g,i,j,k,l,m,n⟩
theorem hD7{a b c d e p5 p6:Prop}(f:a)(g:b)(i:c)(j:d)(k:e)(l:p5)(m:p6):Hid a/\Hid b/\Hid c/\Hid d/\Hid e/\Hid p5/\Hid p6:=⟨f,g,i,j,k,l,m⟩
theorem hD6{a b c d e p5:Prop}(f:a)(g:b)(i:c)(j:d)(k:e)(l:p5):Hid a/\Hid b/\Hid c/\Hid d/\Hid e/\Hid p5:=⟨f,g,i,j,k,l⟩
theorem gJ{a b c d e:Prop}(f:a)(g:b)(i:c)(j:d)(k:e):Hid a/\Hid b/\Hid c/\Hid d/\Hid e:=⟨f,g,i,j,k⟩
theorem dH{a b c d:Prop}(e:a)(f:b)(g:c)(i:d):Hid a/\Hid b/\Hid c/\Hid d:=⟨e,f,g,i⟩
theorem aZ{a b c:Prop}(d:a)(e:b)(f:c):Hid a/\Hid b/\Hid c:=⟨d,e,f⟩
theorem Ow{P:Program}{f:FuncId}{args:Array Value}{w:World}{v:Value}(h:Calls P f args w fun e w'=>e=.returned v/\w=w'):Calls P f args w fun e b=>e=.returned v/\b=w:=
 h.mono fun _ _ a=>⟨a.1,a.2.symm⟩
def Sl(w:World)(B:Nat)(a:oD)(xs:List Value):Prop:=
 xs≠[]->∃b off,a=some ⟨b,off,none⟩/\b<B/\∀i x,xs[i]? =some x->w.cell? ⟨b,off+i,none⟩=some x
theorem Sl.nil{w:World}{B:Nat}{a:oD}:Sl w B a []:=fun h=>absurd rfl h
theorem Sl.aDW{w w':World}{B:Nat}{a:oD}{xs:List Value}(h:Sl w B a xs)(f:∀p:Addr,p.block<B->w'.cell? p=w.cell? p):Sl w' B a xs:=fun g=>by
 obtain⟨b,off,e,c,d⟩:=h g;exact⟨b,off,e,c,fun i x j=>(f _ c).trans (d i x j)⟩
theorem Sl.more{w:World}{B c:Nat}{a:oD}{xs:List Value}(h:Sl w B a xs)(g:B<=c):Sl w c a xs:=fun f=>by
 obtain⟨b,off,e,i,d⟩:=h f;exact⟨b,off,e,qo,d⟩
theorem Sl.below{w w':World}{B:Nat}{a:oD}{xs:List Value}(h:Sl w B a xs)(b:Below B w w'):Sl w' B a xs:=h.aDW fun _ hp=>b.cell hp
theorem Sl.at{w:World}{B:Nat}{a:oD}{xs:List Value}{i:Nat}{x:Value}(h:Sl w B a xs)(c:xs[i]? =some x):
 ∃b off,a=some ⟨b,off,none⟩/\b<B/\w.cell? ⟨b,off+i,none⟩=some x:=by
 obtain⟨b,off,e,d,f⟩:=h (by rintro rfl;simp at c);exact⟨b,off,e,d,f i x c⟩
theorem Sl.laid(w:World)(cs:Array Value)(t:TypeId)(m:Nat×Nat)(xs:List Value)(h:cs.toList=xs):
 Sl (w.alloc (.cells cs t m)) (w.heap.size+1) (some ⟨w.heap.size,0,none⟩) xs:=fun _=>
 ⟨w.heap.size,0,rfl,qo,fun i x a=>by
   subst h;rw[World.cell?_alloc_mark,Nat.zero_add];simpa using a⟩
def bF(l:lU):List Value:=l.map fun c=> .int .u8 c.toNat
theorem uW(l:lU):(bF l).length=l.length:=by simp[bF]
theorem PE(l:lU)(i:Nat):(bF l)[i]? =(l[i]?).map fun c=> .int .u8 c.toNat:=by simp[bF]
theorem iZ(l m:lU):bF (l++m)=bF l++bF m:=by simp[bF]
theorem Sl.byte{w:World}{B:Nat}{a:oD}{l:lU}{i:Nat}(h:Sl w B a (bF l))(c:i<l.length):
 ∃b off,a=some ⟨b,off,none⟩/\b<B/\w.cell? ⟨b,off+i,none⟩=some (.int .u8 (l[i].toNat:Int)):=
 h.at (by rw[PE];simp[c])
def nK(x:BitVec 32):Int:=x.toNat
def n64(x:BitVec 64):Int:=x.toNat
theorem Hp(x:BitVec 32):0<=nK x:=by unfold nK;omega
theorem Hq(x:BitVec 64):0<=n64 x:=by unfold n64;omega
theorem Ar(x y:BitVec 32):bits .xor .u32 (nK x) (nK y)=nK (x ^^^ y):=by
 unfold nK;rw[u32_xor_nat _ _ x.isLt y.isLt,BitVec.toNat_xor]
theorem As(x y:BitVec 64):bits .xor .u64 (n64 x) (n64 y)=n64 (x ^^^ y):=by
 unfold n64;rw[u64_xor_nat _ _ x.isLt y.isLt,BitVec.toNat_xor]
theorem Ox(c:UInt8):(c.toNat:Int)=nK (c.toBitVec.setWidth 32):=by
 simp[nK,BitVec.toNat_setWidth]
theorem Oy(c:UInt8):(c.toNat:Int)=n64 (c.toBitVec.setWidth 64):=by
 simp[n64,BitVec.toNat_setWidth]
theorem Oz(x:BitVec 32):bits .and .u32 (nK x) 1=if x.getLsbD 0 then 1 else 0:=by
 unfold nK;rw[show (1:Int)=((1:Nat):Int) from rfl,u32_and_nat _ _ x.isLt qe,nat_mask1,BitVec.getLsbD,Nat.testBit_zero];by_cases h:x.toNat % 2=1<;>simp[h]<;>omega
theorem TI(x:BitVec 32):nK x / (2:Int)=nK (x >>> 1):=by
 unfold nK;rw[BitVec.toNat_ushiftRight,Nat.shiftRight_eq_div_pow];omega
theorem Vk(x:BitVec 32):bits .xor .u32 IntKind.u32.max (nK x)=nK (~~~ x):=by
 unfold nK;rw[show IntKind.u32.max=(((4294967295:Nat)):Int) from rfl,u32_xor_nat _ _ qe x.isLt,<-BitVec.xor_allOnes,BitVec.toNat_xor,Nat.xor_comm];rfl
theorem Vl(x y:BitVec 64):bits .and .u64 (n64 x) (n64 y)=n64 (x&&& y):=by
 unfold n64;rw[u64_and_nat _ _ x.isLt y.isLt,BitVec.toNat_and]
theorem Au(x y:BitVec 64):IntKind.u64.wrap (n64 x * n64 y)=n64 (x * y):=by
 unfold n64;rw[IntKind.wrap_u64,BitVec.toNat_mul,Int.natCast_emod,Int.natCast_mul];rfl
theorem Vm(x:BitVec 64)(n:Nat):n64 x / (2:Int) ^ n=n64 (x >>> n):=by
 unfold n64;rw[BitVec.toNat_ushiftRight,Nat.shiftRight_eq_div_pow];simp
theorem Sl.take{w:World}{B:Nat}{a:oD}{xs:List Value}(h:Sl w B a xs)(n:Nat):Sl w B a (xs.take n):=fun g=>by
 obtain⟨b,off,e,d,f⟩:=h (by rintro rfl;simp at g);refine⟨b,off,e,d,fun i x c=>f i x ?_⟩;rw[List.getElem?_take] at c;split at c
 .exact c
 .cases c
def jZ(w w':World):Prop:=∃n,w'=w.drewN n
theorem jZ.refl(w:World):jZ w w:=⟨0,rfl⟩
theorem jZ.drewN{w w':World}(h:jZ w w')(k:Nat):jZ w (w'.drewN k):=by
 obtain⟨n,rfl⟩:=h;exact⟨n+k,World.drewN_drewN w n k⟩
theorem jZ.drew{w w':World}(h:jZ w w'):jZ w w'.drew:=by
 obtain⟨n,rfl⟩:=h;exact⟨n+1,rfl⟩
theorem jZ.trans{a b c:World}(h:jZ a b)(k:jZ b c):jZ a c:=by
 obtain⟨n,rfl⟩:=k;exact h.drewN n
theorem jZ.cell{w w':World}(h:jZ w w')(p:Addr):w'.cell? p=w.cell? p:=by
 obtain⟨n,rfl⟩:=h;rfl
theorem jZ.heap{w w':World}(h:jZ w w'):w'.heap=w.heap:=by
 obtain⟨n,rfl⟩:=h;rfl
theorem jZ.below{w w' a:World}{B:Nat}(h:jZ w w')(b:Below B a w):Below B a w':=by
 obtain⟨n,rfl⟩:=h;exact below_drewN b n
theorem SD{P:Program}{f:FuncId}{args:Array Value}{w:World}{n:Nat}{v:Value}(h:Calls P f args (w.drewN n) fun e w'=>e=.returned v/\w.drewN n=w'):
 Calls P f args (w.drewN n) fun e b=>e=.returned v/\∃m,b=w.drewN m:=h.mono fun _ _ a=>⟨a.1,n,a.2.symm⟩
def zz(n:Int):Nat:=if 0<=n then (2 * n).toNat else (-2 * n - 1).toNat
theorem Tm(n:Int)(h1: -9223372036854775808<=n)(h2:n<=9223372036854775807):zz n<18446744073709551616:=by
 unfold zz;split<;>omega
def sZ(u:Nat):List UInt8:=if u<128 then [UInt8.ofNat u] else UInt8.ofNat (u % 128+128)::sZ (u / 128)
termination_by u
decreasing_by omega
theorem vF{u:Nat}(h:u<128):sZ u=[UInt8.ofNat u]:=by rw[sZ,iP h]
theorem JD{u:Nat}(h:¬u<128):sZ u=UInt8.ofNat (u % 128+128)::sZ (u / 128):=by rw[sZ,iN h]
def nS(n:Int):List UInt8:=sZ (zz n)
def vG(s:lU):List UInt8:=nS s.length++s
theorem TJ:∀(k:Nat) (u:Nat),u<128 ^ (k+1)->(sZ u).length<=k+1
 |0,u,h=>by rw[vF (by simpa using h)];simp
 |k+1,u,h=>by
  by_cases hu:u<128
  .rw[vF hu];simp
  .rw[JD hu,List.length_cons];have:=TJ k (u / 128) (by rw[Nat.pow_succ] at h;omega);omega
theorem Vn(u:Nat)(h:u<18446744073709551616):(sZ u).length<=10:=TJ 9 u qo
theorem Pb(u:Nat):1<=(sZ u).length:=by
 by_cases hu:u<128
 .rw[vF hu];simp
 .rw[JD hu];simp
theorem tA(n:Int)(h1: -9223372036854775808<=n)(h2:n<=9223372036854775807):(nS n).length<=10:=Vn _ (Tm n h1 h2)
theorem mJ(u:Nat)(h:u<256):((UInt8.ofNat u).toNat:Int)=(u:Int):=by rw[UInt8.toNat_ofNat'];omega
section
variable {P:Program} (w:World)
theorem NG(base:Nat)(t ty e:TypeId)(i:TypeInfo)(size:Nat)(b:P.underlying t=some (.slice e))(a:P.info? e=some i)
 (v:Value)(n:Nat)(xs:List Value)(f:w.ownsRow base e size v n xs)(c:Nat):(Builtin.append_ #[t,t] ty #[v,.slice none 0 c]).run P w=.ok v w:=by
 rcases f.2 with ⟨rfl,rfl⟩|⟨g,cap,cur,rfl,_,_,d,_⟩
 .simp[Builtin.append_,run_underlying b,sizeOf,typeInfo,a,Builtin.lenOf,Builtin.firstCells]
 .simp[Builtin.append_,run_underlying b,sizeOf,typeInfo,a,Builtin.lenOf,Builtin.firstCells,d,storeCells]
theorem TK(base:Nat)(t ty e:TypeId)(i:TypeInfo)(z:Value)(size bytes:Nat)(d:P.underlying t=some (.slice e))(b:P.info? e=some i)(p:i.zero=some z)
 (m:i.size=size)(j:i.bytes=bytes)(q:z.cells.size=size)(o:0<size)
 (v:Value)(n:Nat)(xs:List Value)(a:w.ownsRow base e size v n xs)(A:oD)(c:Nat)(h63:n<=maxLen)(k:n * bytes<=140737488355328)(g:base<=w.heap.size):
 ∃v' w',(Builtin.append_ #[t,t] ty #[v,.slice A 0 c]).run P w=.ok v' w'/\w'.ownsRow base e size v' n xs/\w.grownBy w' v.ownBlock/\(v'.ownBlock=v.ownBlock\/v'.ownBlock=some w.heap.size):=by
 rcases A with _|f
 .exact⟨v,w,NG w base t ty e i size d b v n xs a c,a,World.grownBy.refl w _,.inl rfl⟩
 .obtain⟨v',w',l,h2,h3,_,h5⟩:=run_append_own_at (P:=P) w base t ty e i z size bytes d b p m j q o v n xs a f 0 c [] qs qs qs h63 k g;exact⟨v',w',l,by simpa using h2,h3,h5⟩
theorem Vo(base:Nat)(t ty e:TypeId)(i:TypeInfo)(z:Value)(size bytes:Nat)(r:P.underlying t=some (.slice e))(k:P.info? e=some i)(s:i.zero=some z)
 (q:i.size=size)(f:i.bytes=bytes)(x:z.cells.size=size)(a:0<size)
 (v:Value)(n:Nat)(xs:List Value)(p:w.ownsRow base e size v n xs)
 (B:Nat)(A:oD)(m c:Nat)(news:List Value)(l:news.length=m * size)(C:Sl w B A news)(h1:∀u∈news,u.oneCell'=true)
 (h63:n+m<=maxLen)(g:(n+m) * bytes<=140737488355328)(d:base<=w.heap.size):
 ∃v' w',(Builtin.append_ #[t,t] ty #[v,.slice A m c]).run P w=.ok v' w'/\w'.ownsRow base e size v' (n+m) (xs++news)/\w.grownBy w' v.ownBlock/\
  (v'.ownBlock=v.ownBlock\/v'.ownBlock=some w.heap.size):=by
 by_cases o:news=[]
 .subst o;have hm:m=0:=by
   rcases Nat.eq_zero_or_pos m with h|h
   .exact h
   .have:=Nat.mul_pos h a;simp at l;omega
  subst hm;obtain⟨v',w',h2,h3,h4,h5⟩:=TK (P:=P) w base t ty e i z size bytes r k s q f x a v n xs p A c h63 g d;exact⟨v',w',h2,by simpa using h3,h4,h5⟩
 .obtain⟨b,off,rfl,_,y⟩:=C o;obtain⟨v',w',D,h2,h3,_,h5⟩:=run_append_own_at (P:=P) w base t ty e i z size bytes r k s q f x a v n xs p ⟨b,off,none⟩ m c news l
   (fun j u hu=>by
     have ha:(⟨b,off,none⟩:Addr).add j=⟨b,off+j,none⟩:=by unfold Addr.add;split<;>simp_all
     rw[ha];exact y j u hu) h1 h63 g d
  exact⟨v',w',D,h2,h3,h5⟩
theorem Hr{o:Oper}{a:Act}{K:Act->World->Prop}{Q:Exit->Act->World->Prop}(s x:Operand)(t:TypeId)
 (k:o.op=.call {callee:= .builtin .append,args:=#[s,x],argTypes:=#[t,t]})
 (base:Nat)(e:TypeId)(i:TypeInfo)(z:Value)(size bytes:Nat)(D:P.underlying t=some (.slice e))(g:P.info? e=some i)(F:i.zero=some z)
 (y:i.size=size)(d:i.bytes=bytes)(G:z.cells.size=size)(C:0<size)
 (v:Value)(n:Nat)(xs:List Value)(r:a.eval s=v)(l:w.ownsRow base e size v n xs)
 (B:Nat)(A:oD)(m c:Nat)(news:List Value)(E:a.eval x=.slice A m c)(j:news.length=m * size)(p:Sl w B A news)(h1:∀u∈news,u.oneCell'=true)
 (h63:n+m<=maxLen)(f:(n+m) * bytes<=140737488355328)(b:base<=w.heap.size)
 (h:∀v' w',w'.ownsRow base e size v' (n+m) (xs++news)->w.grownBy w' v.ownBlock->(v'.ownBlock=v.ownBlock\/v'.ownBlock=some w.heap.size)->K (a.put o.dst v') w'):o.wp P a w K Q:=by
 obtain⟨v',w',q,h2,h3,h4⟩:=Vo (P:=P) w base t o.type e i z size bytes D g F y d G C v n xs l B A m c news j p h1 h63 f b;unfold Oper.wp execOp;simp only[k,resolve,invoke,builtin,Sem.run_bind,Sem.run_pure,Result.andThen_ok,List.map_toArray,List.map_cons,List.map_nil,r,E,q];exact h v' w' h2 h3 h4
theorem lW{ops:Array Oper}{rest:List Oper}{o:Oper}{a:Act}{Q:Exit->Act->World->Prop}(j:o.guard=none)(s x:Operand)(t:TypeId)
 (p:o.op=.call {callee:= .builtin .append,args:=#[s,x],argTypes:=#[t,t]})
 (base:Nat)(e:TypeId)(i:TypeInfo)(z:Value)(size bytes:Nat)(E:P.underlying t=some (.slice e))(k:P.info? e=some i)(G:i.zero=some z)
 (C:i.size=size)(f:i.bytes=bytes)(H:z.cells.size=size)(D:0<size)
 (v:Value)(n:Nat)(xs:List Value)(y:a.eval s=v)(q:w.ownsRow base e size v n xs)
 (B:Nat)(A:oD)(m c:Nat)(news:List Value)(F:a.eval x=.slice A m c)(l:news.length=m * size)(r:Sl w B A news)(h1:∀u∈news,u.oneCell'=true)
 (h63:n+m<=maxLen)(g:(n+m) * bytes<=140737488355328)(d:base<=w.heap.size)
 (h:∀v' w',w'.ownsRow base e size v' (n+m) (xs++news)->w.grownBy w' v.ownBlock->(v'.ownBlock=v.ownBlock\/v'.ownBlock=some w.heap.size)->wpList P ops Q rest (a.put o.dst v') w'):wpList P ops Q (o::rest) a w:=
 wpList_plain j fun _ b=>Hr w s x t p base e i z size bytes E k G C f H D v n xs y q B A m c news F l r h1 h63 g d fun v' w' h2 h3 h4=>b _ _ (h v' w' h2 h3 h4)
end
theorem lX{w:World}{base:Nat}{e:TypeId}{size n:Nat}{v:Value}{xs:List Value}(h:w.ownsRow base e size v n xs):
 ∃A c,v=.slice A n c/\n<=c/\Sl w w.heap.size A xs/\(∀a,A=some a->base<=a.block):=by
 rcases h.2 with ⟨rfl,rfl⟩|⟨g,cap,cur,rfl,b,d,i,k,l,m⟩
 .have:xs=[]:=List.eq_nil_of_length_eq_zero (by simpa using h.1);subst this;exact⟨none,0,rfl,lR _,Sl.nil,qs⟩
 .have f:=(Array.getElem?_eq_some_iff.1 d).1;refine⟨_,cap,rfl,i,fun _=>⟨g,0,rfl,f,fun j u hu=> ?_⟩,by intro a ha;injection ha with ha;subst ha;exact b⟩;have:=h.cells (g:=g) rfl j u hu;have ha:(⟨g,0,none⟩:Addr).add j=⟨g,0+j,none⟩:=by unfold Addr.add;split<;>simp_all
  rwa [ha] at this
theorem dY{w w':World}{B base:Nat}{e:TypeId}{size n:Nat}{v:Value}{xs:List Value}{a:World}(h:w.ownsRow base e size v n xs)(b:Below B a w)(c:w.grownBy w' v.ownBlock)(f:B<=base)(g:base<=w.heap.size):Below B a w':=
 b.grown c qo (fun k d=>qA ((h.lt k d).1))
theorem Yq{w:World}{base c:Nat}{e b:TypeId}{size o n m:Nat}{v v':Value}{xs p:List Value}(h:w.ownsRow base e size v n xs)(i:w.ownsRow c b o v' m p)(k:e≠b):
 v.ownBlock=none\/v.ownBlock≠v'.ownBlock:=by
 rcases h.2 with ⟨rfl,_⟩|⟨g,cap,cur,rfl,_,j,_⟩
 .exact .inl rfl
 .refine .inr ?_
  rcases i.2 with ⟨rfl,_⟩|⟨f,q,r,rfl,_,a,_⟩
  .simp[Value.ownBlock]
  .intro d;have:g=f:=by simpa [Value.ownBlock] using d
   subst this;rw[j] at a;injection a with a;injection a with _ l;exact k l
theorem Hs{w w':World}{base:Nat}{e:TypeId}{size n:Nat}{v:Value}{xs:List Value}(h:w.ownsRow base e size v n xs)(a:jZ w w'):w'.ownsRow base e size v n xs:=by
 obtain⟨k,rfl⟩:=a;exact h
theorem tB{w:World}{base a:Nat}{e:TypeId}{size n:Nat}{v:Value}{xs:List Value}(h:w.ownsRow base e size v n xs)(d:a<=base):w.ownsRow a e size v n xs:=by
 refine⟨h.1,?_⟩
 rcases h.2 with b|⟨g,cap,cur,c,f,r⟩
 .exact .inl b
 .exact .inr ⟨g,cap,cur,c,qo,r⟩
def rK(w:World)(base:Nat)(e:TypeId)(vs:List Value)(l:List (List UInt8)):Prop:=
 vs.length=l.length/\∀(i:Nat) (x:lU),l[i]? =some x->∃v,vs[i]? =some v/\w.ownsRow base e 1 v x.length (bF x)
theorem rK.nil(w:World)(base:Nat)(e:TypeId):rK w base e [] []:=⟨rfl,fun i x h=>by simp at h⟩
theorem rK.aDW{w w':World}{base:Nat}{e:TypeId}{vs:List Value}{l:List (List UInt8)}(h:rK w base e vs l)
 (a:∀v n xs,w.ownsRow base e 1 v n xs->w'.ownsRow base e 1 v n xs):rK w' base e vs l:=
 ⟨h.1,fun i x b=>by obtain⟨v,h1,h2⟩:=h.2 i x b;exact⟨v,h1,a _ _ _ h2⟩⟩
theorem rK.snoc{w:World}{base:Nat}{e:TypeId}{vs:List Value}{l:List (List UInt8)}(h:rK w base e vs l){v:Value}{x:lU}(c:w.ownsRow base e 1 v x.length (bF x)):
 rK w base e (vs++[v]) (l++[x]):=by
 refine⟨by simp[h.1],fun i y a=> ?_⟩;by_cases b:i<l.length
 .rw[List.getElem?_append_left b] at a;rw[List.getElem?_append_left (by rw[h.1];exact b)];exact h.2 i y a
 .rw[List.getElem?_append_right qo] at a;rw[List.getElem?_append_right (by rw[h.1];omega),h.1];have h0:i - l.length=0:=by
   rcases Nat.eq_zero_or_pos (i - l.length) with h0|h0
   .exact h0
   .rw[List.getElem?_eq_none (by simp only[List.length_cons,List.length_nil];omega)] at a;cases a
  rw[h0] at a ⊢;injection a with a;subst a;exact⟨v,rfl,c⟩
theorem vH:(prog.info? 5).map (fun i=>(i.zero,i.size,i.bytes))=some (some (.int .u8 0),1,1):=by kernel_rfl
theorem uD(l:lU):∀v∈bF l,v.oneCell'=true:=by
 intro v a;simp only[bF,List.mem_map] at a;obtain⟨c,_,rfl⟩:=a;rfl
def oW(w:World)(l:lU)(e:Ending)(w':World):Prop:=
 ∃v,e=.returned v/\w'.ownsRow w.heap.size 5 1 v l.length (bF l)/\Below w.heap.size w w'
theorem Yr{w:World}{B:Nat}{l:lU}(h:Sl w B none (bF l)):l=[]:=by
 cases l with
 |nil=>rfl
 |cons x l=>
  obtain⟨b,off,e,_⟩:=h (by simp[bF])
  cases e
theorem PF(a:oD)(c n:Nat)(l:lU)(D:l.length=n)(w:World)(F:l.length<=140737488351232)(b:Sl w w.heap.size a (bF l)):
 Calls prog 49 #[.slice a n c] w (oW w l):=by
 subst D;obtain⟨i0,g,m,o,p⟩:=info_parts vH;obtain⟨x,y,z,A⟩:=dH g m o p;clear g m o p
 rcases a with _|f
 .have i:=Yr b;have heq:=Lib.run_eql_slice_nil (P:=prog) w 71 5 none l.length c 0 0 underlying71;have r:=aA i;clear b i;go_enter func49,ntmps49;go_wp2;go_ret;exact⟨_,rfl,by rw[r.o];exact World.ownsRow_nil _ _ _ _,Below.refl _ _⟩
 .have heq:=Lib.run_eql_slice_nil (P:=prog) w 71 5 (some f) l.length c 0 0 underlying71;have j:(w.alloc (.cells #[] 5)).ownsRow w.heap.size 5 1 (.slice (some ⟨w.heap.size,0,none⟩) 0 0) 0 []:=World.ownsRow_made w #[] 0 (lR _) (by simp[maxLen]) rfl;have d:Below w.heap.size w (w.alloc (.cells #[] 5)):=(Below.refl _ _).alloc (lR _) _;have v:Hid ((bF l).length=l.length * 1):=aA (by rw[uW,Nat.mul_one]);obtain⟨t,s,e,q⟩:=dH (b.below d) (uD l) j d;clear b j d;go_enter func49,ntmps49;go_wp2_with (at_builtin;refine lW _ rfl (.tmp 5) (.tmp 6) 71 rfl w.heap.size 5 i0 (.int .u8 0) 1 1 underlying71 x.o y.o z.o A.o rfl qe (.slice (some ⟨w.heap.size,0,none⟩) 0 0) 0 [] rfl e.o w.heap.size (some f) l.length c (bF l) rfl v.o t.o s.o (by unfold maxLen;omega) qo qs ?_;intro v1 w1 k C E;have B:Below w.heap.size w w1:=dY e.o q.o C (lR _) qs;rw[Nat.zero_add,List.nil_append] at k)
  go_ret;exact⟨_,rfl,k,B⟩
theorem Cv(u:Nat)(h:u<18446744073709551616):bits .and .u64 (u:Int) 127=((u % 128:Nat):Int):=by
 rw[show (127:Int)=((127:Nat):Int) from rfl,u64_and_nat _ _ h qe];rw[show (127:Nat)=2 ^ 7 - 1 from rfl,Nat.and_two_pow_sub_one_eq_mod]
theorem aAQ(x:Nat)(h:x<128):x|||128=x+128:=by
 rw[Nat.or_comm,show (128:Nat)=2 ^ 7 * 1 from rfl,<-Nat.two_pow_add_eq_or_of_lt (i:=7) h 1];omega
theorem Ht(x:Nat)(h:x<128):bits .or .u64 (x:Int) 128=((x+128:Nat):Int):=by
 rw[show (128:Int)=((128:Nat):Int) from rfl,u64_or_nat _ _ qo qe,aAQ x h]
theorem Ys(k:Int)(h1: -9223372036854775808<=k)(h2:k<0):bits .xor .u64 IntKind.u64.max (IntKind.u64.wrap (IntKind.u64.wrap k * 2))=(zz k:Int):=by
 have b:IntKind.u64.wrap (IntKind.u64.wrap k * 2)=((2 * k+18446744073709551616).toNat:Int):=by
  rw[IntKind.wrap_u64,IntKind.wrap_u64];omega
 rw[b,show IntKind.u64.max=((18446744073709551615:Nat):Int) from rfl,u64_xor_nat _ _ qe qo];have hu:(2 * k+18446744073709551616).toNat<2 ^ 64:=qo;have h3:(18446744073709551615:Nat) ^^^ (2 * k+18446744073709551616).toNat=2 ^ 64 - 1 - (2 * k+18446744073709551616).toNat:=by
  have a:=congrArg BitVec.toNat (BitVec.xor_allOnes (x:=BitVec.ofNat 64 (2 * k+18446744073709551616).toNat));rw[BitVec.toNat_xor,BitVec.toNat_not,BitVec.toNat_ofNat,Nat.mod_eq_of_lt hu] at a;rw[Nat.xor_comm];exact a
 rw[h3];unfold zz;rw[iN qo];omega
theorem Yt(k:Int)(h:0<=k):k * 2=(zz k:Int):=by unfold zz;rw[iP h];omega
def TL(u:Nat):Prop:=u<18446744073709551616
def Yu(B:Nat)(w:World)(T:lU)(u v:Value)(wr:World):Prop:=
 ∃(a:Nat) (pre:lU),u=.int .u64 a/\TL a/\pre++sZ a=T/\wr.ownsRow B 5 1 v pre.length (bF pre)/\Below B w wr
theorem EW(a:oD)(c n:Nat)(k:Int)(l:lU)(V:l.length=n)(w:World)(h1: -9223372036854775808<=k)(h2:k<=9223372036854775807)(hl:l.length<=1000000000)(W:Sl w w.heap.size a (bF l)):
 Calls prog 101 #[.slice a n c,.int .i64 k] w (oW w (l++nS k)):=by
 obtain⟨i0,U,Y,Z,aa⟩:=info_parts vH;obtain⟨N,O,P,R⟩:=dH U Y Z aa;clear U Y Z aa;have hC:=aA (PF a c n l V w qo W);have h10:=tA k h1 h2;have I:Hid (TL (zz k)):=Tm k h1 h2;have hT:(l++nS k).length<=1000000010:=by rw[aL];omega
 obtain⟨T,B⟩:=xE (l++nS k);rw[<-B] at hT ⊢;have A:Hid (l++sZ (zz k)=T):=aA B.symm;clear B;clear W h10 V hl;have fin:∀(u0:Value),u0=.int .u64 (zz k:Nat)->True:=fun _ _=>trivial
 by_cases h0:k<0
 all_goals
  first|(have H:=Ys k h1 h0)|(have H:=Yt k qo)
  generalize zz k=z at H A I;go_enter func101,ntmps101;go_wp2_with fail;refine hC.o.mono ?_;rintro e w1 ⟨v,rfl,f,S⟩;have L:=aA f;have K:=aA S;clear f S;go_wp2;go_loopw [5,6] (fun u v wr=>Yu w.heap.size w T u v wr) (fun u _ _=>(intOf u).toNat)
  case atStart=>exact⟨z,l,rfl,I.o,A.o,L.o,K.o⟩
  case round=>
   clear H I A L K hC;obtain⟨b,pre,rfl,X,g,f,r⟩:=hrel;have af:pre.length+1<=T.length:=by have:=Pb b;rw[<-g,aL];omega
   have M:Hid (TL b):=aA X;clear X;by_cases F:b<128
   .have x:Hid (pre++[UInt8.ofNat b]=T):=by rw[vF F] at g;exact g
    have s:=aA (mJ b qo);have q:Hid (bF [UInt8.ofNat b]=[.int .u8 (b:Int)]):=by show[Value.int .u8 ((UInt8.ofNat b).toNat:Int)]=_;rw[s.o]
    obtain⟨j,t,i⟩:=aZ (uD [UInt8.ofNat b]) f r;have m:Hid ((bF [UInt8.ofNat b]).length=1 * 1):=rfl;generalize p:bF [UInt8.ofNat b]=Q at q j m;have y:=aA p;have o:=t.o.alloc (.cells #[.int .u8 (b:Int)] 5);have D:Sl (wr.alloc (.cells #[.int .u8 (b:Int)] 5)) (wr.heap.size+1) (some ⟨wr.heap.size,0,none⟩) Q:=by rw[q.o];exact Sl.laid wr _ _ _ _ rfl
    have d:=i.o.alloc i.o.size (.cells #[.int .u8 (b:Int)] 5);clear f r g p;go_wp2_with (at_builtin;refine lW _ rfl (.tmp 27) (.tmp 30) 71 rfl w.heap.size 5 i0 (.int .u8 0) 1 1 underlying71 N.o O.o P.o R.o rfl qe _ pre.length _ rfl o (wr.heap.size+1) (some ⟨wr.heap.size,0,none⟩) 1 1 Q rfl m.o D j.o (by unfold maxLen;omega) qo d.size ?_;intro v3 J G E ad;have C:Below w.heap.size w J:=dY o d E (lR _) d.size)
    go_ret;refine⟨_,rfl,?_,C⟩;rw[<-x.o,iZ,y.o,aL];exact G
   .have x:Hid ((pre++[UInt8.ofNat (b % 128+128)])++sZ (b / 128)=T):=by rw[JD F] at g;rw[List.append_assoc];exact g
    have s:(((UInt8.ofNat (b % 128+128)).toNat:Nat):Int)=(b:Int) % 128+128:=by rw[mJ (b % 128+128) qo];omega
    have q:Hid (bF [UInt8.ofNat (b % 128+128)]=[.int .u8 ((b:Int) % 128+128)]):=aA (by show[Value.int .u8 ((UInt8.ofNat (b % 128+128)).toNat:Int)]=_;rw[s]);obtain⟨j,t,i⟩:=aZ (uD [UInt8.ofNat (b % 128+128)]) f r;have m:Hid ((bF [UInt8.ofNat (b % 128+128)]).length=1 * 1):=rfl;generalize p:bF [UInt8.ofNat (b % 128+128)]=Q at q j m;have y:=aA p;have b1:bits .and .u64 (b:Int) 127=(b:Int) % 128:=by rw[Cv b M.o];omega
    have b2:bits .or .u64 ((b:Int) % 128) 128=(b:Int) % 128+128:=by rw[show ((b:Int) % 128)=((b % 128:Nat):Int) by omega,Ht _ qo];omega
    have b3:((b:Int) % 128+128) % 256=(b:Int) % 128+128:=qo;have ab:Hid (TL (b / 128)):=aA (by have:b<18446744073709551616:=M.o;show b / 128<18446744073709551616;omega);have o:=t.o.alloc (.cells #[.int .u8 ((b:Int) % 128+128)] 5);have D:Sl (wr.alloc (.cells #[.int .u8 ((b:Int) % 128+128)] 5)) (wr.heap.size+1) (some ⟨wr.heap.size,0,none⟩) Q:=by rw[q.o];exact Sl.laid wr _ _ _ _ rfl
    have d:=i.o.alloc i.o.size (.cells #[.int .u8 ((b:Int) % 128+128)] 5);have ae:128<=b:=qo;clear g p s f r F;go_wp2_with (at_builtin;refine lW _ rfl (.tmp 20) (.tmp 25) 71 rfl w.heap.size 5 i0 (.int .u8 0) 1 1 underlying71 N.o O.o P.o R.o rfl qe _ pre.length _ rfl o (wr.heap.size+1) (some ⟨wr.heap.size,0,none⟩) 1 1 Q rfl m.o D j.o (by unfold maxLen;omega) qo d.size ?_;intro v3 J G E ad;have C:Below w.heap.size w J:=dY o d E (lR _) d.size)
    go_roundw
    case rel=>exact⟨b / 128,pre++[UInt8.ofNat (b % 128+128)],by go_num,ab.o,x.o,by rw[iZ,y.o,aL];exact G,C⟩
    case measure=>simp[intOf];omega
theorem TM(a:oD)(c n:Nat)(s:bY)(l:lU)(m:l.length=n)(w:World)(I:s.size<=1000000000)(k:l.length<=1000000000)(p:Sl w w.heap.size a (bF l)):
 Calls prog 102 #[.slice a n c,.string s] w (oW w (l++vG s.data.toList)):=by
 obtain⟨i0,j,q,r,t⟩:=info_parts vH;obtain⟨y,z,A,B⟩:=dH j q r t;clear j q r t;have d:s.data.toList.length=s.size:=by rw[Array.length_toList];rfl
 have hC:=EW a c n (s.size:Int) l m w qo qo k p;have C:Hid (l++vG s.data.toList=(l++nS (s.size:Int))++s.data.toList):=aA (by unfold vG;rw[d,List.append_assoc]);have h10:=tA (s.size:Int) qo qo;have H:(l++nS (s.size:Int)).length<=1000000010:=by rw[aL];omega
 generalize l++nS (s.size:Int)=T at *;generalize l++vG s.data.toList=R at *;have f:=aA hC;have x:=aA d;clear hC h10 k p m d;go_enter func102,ntmps102;go_wp2_with fail;refine f.o.mono ?_;rintro e w1 ⟨v,rfl,o,i⟩;have g:=aA o;have b:=aA i;clear o i f;go_wp2_with (at_builtin;refine Lib.wpList_append_own_string _ rfl (.tmp 8) (.tmp 9) 71 9 rfl w.heap.size 5 i0 underlying71 underlying9 y.o z.o A.o B.o v T.length (bF T) rfl g.o s rfl (by unfold maxLen;omega) qo b.o.size ?_;intro v3 G F E _;have D:Below w.heap.size w G:=dY g.o b.o E (lR _) b.o.size)
 go_ret;refine⟨_,rfl,?_,D⟩;rw[C.o,iZ,aL,x.o];exact F
structure aN (ok:Nat->Prop) (w w':World):Prop where
 os:w'.os=w.os
 tape:w'.tape=w.tape
 output:w'.output=w.output
 size:w.heap.size<=w'.heap.size
 block:∀k,k<w.heap.size->ok k->w'.heap[k]? =w.heap[k]?
theorem aN.refl(ok:nP)(w:World):aN ok w w:=⟨rfl,rfl,rfl,lR _,fun _ _ _=>rfl⟩
theorem aN.trans{ok:nP}{a b c:World}(h:aN ok a b)(k:aN ok b c):aN ok a c:=
 ⟨k.os.trans h.os,k.tape.trans h.tape,k.output.trans h.output,lT h.size k.size,fun i d e=>(k.block i (lL d h.size) e).trans (h.block i d e)⟩
theorem aN.mono{ok ok':nP}{w w':World}(h:aN ok w w')(c:∀k,k<w.heap.size->ok' k->ok k):aN ok' w w':=⟨h.os,h.tape,h.output,h.size,fun k a b=>h.block k a (c k a b)⟩
theorem aJ{ok:nP}{w w':World}(h:Below w.heap.size w w'):aN ok w w':=⟨h.os,h.tape,h.output,h.size,fun k a _=>h.block k a⟩
theorem aN.below{ok:nP}{w w':World}{B:Nat}(h:aN ok w w')(a:∀k,k<B->k<w.heap.size/\ok k):Below B w w':=⟨h.os,h.tape,h.output,h.size,fun k b=>h.block k (a k b).1 (a k b).2⟩
theorem aN.cell{ok:nP}{w w':World}(h:aN ok w w'){p:Addr}{x:Value}(hp:ok p.block)(a:w.cell? p=some x):w'.cell? p=some x:=by
 have b:p.block<w.heap.size:=by
  rcases Nat.lt_or_ge p.block w.heap.size with h|h
  .exact h
  .simp[World.cell?,Array.getElem?_eq_none h] at a
 rw[World.cell?_of_block (w:=w) (h.block p.block b hp)];exact a
def jF(w:World)(ok:nP)(a:oD)(xs:List Value):Prop:=
 xs≠[]->∃b off,a=some ⟨b,off,none⟩/\ok b/\∀i x,xs[i]? =some x->w.cell? ⟨b,off+i,none⟩=some x
theorem jF.nil{w:World}{ok:nP}{a:oD}:jF w ok a []:=fun h=>absurd rfl h
theorem jF.aE4{w:World}{B:Nat}{a:oD}{xs:List Value}(h:Sl w B a xs):jF w (fun b=>b<B) a xs:=h
theorem jF.sl{w:World}{B:Nat}{a:oD}{xs:List Value}(h:jF w (fun b=>b<B) a xs):Sl w B a xs:=h
theorem jF.aDW{w w':World}{ok:nP}{a:oD}{xs:List Value}(h:jF w ok a xs)(f:aN ok w w'):jF w' ok a xs:=fun g=>by
 obtain⟨b,off,e,c,d⟩:=h g;exact⟨b,off,e,c,fun i x j=>f.cell (p:=⟨b,off+i,none⟩) c (d i x j)⟩
theorem jF.more{w:World}{ok ok':nP}{a:oD}{xs:List Value}(h:jF w ok a xs)(g:∀b,ok b->ok' b):jF w ok' a xs:=fun f=>by
 obtain⟨b,off,e,c,d⟩:=h f;exact⟨b,off,e,g b c,d⟩
theorem jF.lt{w:World}{ok:nP}{a:oD}{xs:List Value}(h:jF w ok a xs):Sl w w.heap.size a xs:=fun d=>by
 obtain⟨b,off,e,g,c⟩:=h d;refine⟨b,off,e,?_,c⟩
 rcases xs with _|⟨x,l⟩
 .exact absurd rfl d
 have f:=c 0 x rfl
 rcases Nat.lt_or_ge b w.heap.size with h|h
 .exact h
 .simp[World.cell?,Array.getElem?_eq_none h] at f
theorem jF.inb{w:World}{ok:nP}{a:oD}{xs:List Value}(h:jF w ok a xs):jF w (fun b=>ok b/\b<w.heap.size) a xs:=fun d=>by
 obtain⟨b,off,e,g,i⟩:=h d;obtain⟨b',k,c,j,_⟩:=h.lt d;rw[e] at c;injection c with c;injection c with f _;exact⟨b,off,e,⟨g,f▸j⟩,i⟩
abbrev Rep(α:Type):=World->(Nat->Prop)->List Value->α->Prop
structure Firm {α:Type} (R:Rep α) (s:Nat):Prop where
 aDW:∀{w w' ok cs x},R w ok cs x->aN ok w w'->R w' ok cs x
 more:∀{w ok ok' cs x},R w ok cs x->(∀b,ok b->ok' b)->R w ok' cs x
 len:∀{w ok cs x},R w ok cs x->cs.length=s
 one:∀{w ok cs x},R w ok cs x->∀v∈cs,v.oneCell'=true
 inb:∀{w ok cs x},R w ok cs x->R w (fun b=>ok b/\b<w.heap.size) cs x
def aW{α:Type}(R:List Value->α->Prop):List Value->List α->Prop
 |cs,[]=>cs=[]
 |cs,x::l=>∃r t,cs=r++t/\R r x/\aW R t l
theorem aW.mono{α:Type}{R a:List Value->α->Prop}(h:∀r x,R r x->a r x):∀{l:List α} {cs:List Value},aW R cs l->aW a cs l
 | [],_,hc=>hc
 |_::_,_,⟨r,t,e,hr,ht⟩=>⟨r,t,e,h _ _ hr,aW.mono h ht⟩
theorem aW.append{α:Type}{R:List Value->α->Prop}:∀{l:List α} {cs:List Value} {m:List α} {a:List Value},aW R cs l->aW R a m->aW R (cs++a) (l++m)
 | [],cs,m,a,hc,hd=>by
   rw[show cs=[] from hc];exact hd
 |x::l,cs,m,a,⟨r,t,e,hr,ht⟩,hd=>⟨r,t++a,by rw[e,List.append_assoc],hr,aW.append ht hd⟩
theorem aW.one{α:Type}{R:List Value->α->Prop}{r:List Value}{x:α}(h:R r x):aW R r [x]:=⟨r,[],qs,h,rfl⟩
theorem aW.snoc{α:Type}{R:List Value->α->Prop}{l:List α}{cs r:List Value}{x:α}(h:aW R cs l)(a:R r x):aW R (cs++r) (l++[x]):=h.append (aW.one a)
theorem aW.len{α:Type}{R:List Value->α->Prop}{s:Nat}(a:∀r x,R r x->r.length=s):∀{l:List α} {cs:List Value},aW R cs l->cs.length=l.length * s
 | [],cs,h=>by rw[show cs=[] from h];simp
 |x::l,cs,⟨r,t,e,hr,ht⟩=>by
  rw[e,aL,a _ _ hr,aW.len a ht,List.length_cons,Nat.add_mul];omega
theorem aW.aEl{α:Type}{R:List Value->α->Prop}(b:∀r x,R r x->∀v∈r,v.oneCell'=true):∀{l:List α} {cs:List Value},aW R cs l->∀v∈cs,v.oneCell'=true
 | [],cs,h=>by rw[show cs=[] from h];simp
 |x::l,cs,⟨r,t,e,hr,ht⟩=>by
  intro v a;rw[e] at a
  rcases List.mem_append.1 a with a|a
  .exact b _ _ hr v a
  .exact aW.aEl b ht v a
theorem aW.at{α:Type}{R:List Value->α->Prop}{s:Nat}(c:∀r x,R r x->r.length=s):∀{l:List α} {cs:List Value} {k:Nat} (h:aW R cs l) (a:k<l.length),∃r,R r l[k]/\∀j x,r[j]? =some x->cs[k * s+j]? =some x
 | [],_,_,_,a=>absurd a qs
 |x::l,cs,0,⟨r,t,e,hr,ht⟩,a=>⟨r,hr,fun j y b=>by
  rw[e,Nat.zero_mul,Nat.zero_add,List.getElem?_append_left (List.getElem?_eq_some_iff.1 b).1];exact b⟩
 |x::l,cs,k+1,⟨r,t,e,hr,ht⟩,a=>by
  obtain⟨g,f,d⟩:=aW.at c (k:=k) ht (by simpa using a);refine⟨g,f,fun j y b=> ?_⟩;have i:=c _ _ hr;rw[e,Nat.add_mul,List.getElem?_append_right qo];have:=d j y b;rw[show k * s+1 * s+j - r.length=k * s+j by omega];exact this
theorem aW.aEQ{α:Type}{R:List Value->α->Prop}{s:Nat}(a:∀r x,R r x->r.length=s)(h0:0<s){l:List α}(h:aW R [] l):l=[]:=by
 have:=h.len a
 rcases l with _|⟨x,l⟩
 .rfl
 .simp only[List.length_nil,List.length_cons,Nat.add_mul] at this;omega
theorem aW.split{α:Type}{R:List Value->α->Prop}{s:Nat}(a:∀r x,R r x->r.length=s):∀{l:List α} {cs:List Value} (k:Nat),aW R cs l->k<=l.length->aW R (cs.take (k * s)) (l.take k)/\aW R (cs.drop (k * s)) (l.drop k)
 |l,cs,0,h,_=>by rw[Nat.zero_mul];exact⟨rfl,h⟩
 | [],cs,k+1,h,hk=>absurd hk qs
 |x::l,cs,k+1,⟨r,t,e,hr,ht⟩,hk=>by
  have c:=a _ _ hr;obtain⟨h1,h2⟩:=aW.split a k ht (by simpa using hk);have b:(k+1) * s=r.length+k * s:=by rw[c,Nat.add_mul];omega
  rw[e,b,List.take_length_add_append,List.drop_length_add_append];exact⟨⟨r,_,rfl,hr,h1⟩,h2⟩
theorem aW.set{α:Type}{R:List Value->α->Prop}{s:Nat}(b:∀r x,R r x->r.length=s){l:List α}{cs r:List Value}{x:α}{k:Nat}(h:aW R cs l)(a:k<l.length)(c:R r x):aW R (cs.take (k * s)++r++cs.drop ((k+1) * s)) (l.set k x):=by
 rw[List.set_eq_take_append_cons_drop,iP a,List.append_assoc];exact(h.split b k qo).1.append ⟨r,_,rfl,c,(h.split b (k+1) a).2⟩
def aH{α:Type}(R:Rep α)(w:World)(ok:nP)(v:Value)(l:List α):Prop:=
 ∃a c cs,v=.slice a l.length c/\jF w ok a cs/\aW (R w ok) cs l/\l.length<=1000000
section
variable {α:Type} {R:Rep α} {s:Nat} (F:Firm R s)
include F
theorem aH.aDW{w w':World}{ok:nP}{v:Value}{l:List α}(h:aH R w ok v l)(b:aN ok w w'):aH R w' ok v l:=by
 obtain⟨a,c,cs,e,h1,h2,h3⟩:=h;exact⟨a,c,cs,e,h1.aDW b,h2.mono (fun _ _ d=>F.aDW d b),h3⟩
theorem aH.more{w:World}{ok ok':nP}{v:Value}{l:List α}(h:aH R w ok v l)(d:∀b,ok b->ok' b):aH R w ok' v l:=by
 obtain⟨a,c,cs,e,h1,h2,h3⟩:=h;exact⟨a,c,cs,e,h1.more d,h2.mono (fun _ _ f=>F.more f d),h3⟩
theorem aH.inb{w:World}{ok:nP}{v:Value}{l:List α}(h:aH R w ok v l):aH R w (fun b=>ok b/\b<w.heap.size) v l:=by
 obtain⟨a,c,cs,e,h1,h2,h3⟩:=h;exact⟨a,c,cs,e,h1.inb,h2.mono (fun _ _ d=>F.inb d),h3⟩
theorem aH.on{w w':World}{ok:nP}{v:Value}{l:List α}(h:aH R w ok v l)(a:Below w.heap.size w w'):aH R w' ok v l:=h.aDW F (aJ a)
theorem aH.at{w:World}{ok:nP}{a:oD}{n c:Nat}{l:List α}{k:Nat}(h:aH R w ok (.slice a n c) l)(t:k<l.length)(h0:0<s):
 ∃b off r,a=some ⟨b,off,none⟩/\ok b/\b<w.heap.size/\R w ok r l[k]/\∀j x,r[j]? =some x->w.cell? ⟨b,off+k * s+j,none⟩=some x:=by
 obtain⟨z,A,cs,e,h1,h2,_⟩:=h;injection e with g o B;subst g;obtain⟨r,f,i⟩:=h2.at (fun r x f=>F.len f) t;have C:=F.len f;have m:cs≠[]:=by
  rintro rfl;have:=i 0 r[0] (gE qo);simp at this
 obtain⟨b,off,e,p,q⟩:=h1 m;obtain⟨b',D,d,v,_⟩:=h1.lt m;rw[e] at d;injection d with d;injection d with g o;exact⟨b,off,r,e,p,g▸v,f,fun j x y=>by rw[Nat.add_assoc];exact q _ _ (i j x y)⟩
end
theorem aH.nil{α:Type}{R:Rep α}{w:World}{ok:nP}{a:oD}{c:Nat}:aH R w ok (.slice a 0 c) []:=⟨a,c,[],rfl,jF.nil,rfl,qs⟩
theorem aH.slice{α:Type}{R:Rep α}{w:World}{ok:nP}{v:Value}{l:List α}(h:aH R w ok v l):∃a c,v=.slice a l.length c/\l.length<=1000000:=by
 obtain⟨a,c,cs,e,h1,h2,h3⟩:=h;exact⟨a,c,e,h3⟩
def mS{α:Type}(enc:α->List Value)(good:α->Prop):Rep α:=fun _ _ cs x=>cs=enc x/\good x
theorem gK{α:Type}{enc:α->List Value}{good:α->Prop}{s:Nat}(a:∀x,(enc x).length=s)(b:∀x,∀v∈enc x,v.oneCell'=true):Firm (mS enc good) s:=
 ⟨fun h _=>h,fun h _=>h,fun h=>by rw[h.1];exact a _,fun h=>by rw[h.1];exact b _,fun h=>h⟩
theorem rW{α:Type}{R:Rep α}{s:Nat}(F:Firm R s):Firm (fun w ok cs x=>∃v,cs=[v]/\aH R w ok v x:Rep (List α)) 1:={
 aDW:=fun⟨v,e,h⟩ b=>⟨v,e,h.aDW F b⟩
 more:=fun⟨v,e,h⟩ d=>⟨v,e,h.more F d⟩
 len:=fun⟨v,e,_⟩=>by rw[e];rfl
 one:=fun⟨v,e,h⟩=>by
  obtain⟨a,c,rfl,_⟩:=h.slice;rw[e];simp[Value.oneCell']
 inb:=fun⟨v,e,h⟩=>⟨v,e,h.inb F⟩}
abbrev rows{α:Type}(R:Rep α):Rep (List α):=fun w ok cs x=>∃v,cs=[v]/\aH R w ok v x
end Go.Proofs.YthcgdgkpgdjahaaGreatDoor
