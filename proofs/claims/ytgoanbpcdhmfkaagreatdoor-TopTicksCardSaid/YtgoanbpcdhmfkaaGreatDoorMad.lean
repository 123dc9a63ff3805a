/- Lemmas. -/
import Derived.Test.YtgoanbpcdhmfkaaGreatDoorMac
import Derived.Deep.RegionHeld3
import Derived.Deep.RegionLaw
import Derived.Deep.Cut
import Derived.Deep.CutRange
import Derived.Deep.DeepCutAuto
import Derived.Deep.CutBlock
namespace Go.Proofs.YtgoanbpcdhmfkaaGreatDoor
open Go.RowKit
set_option linter.unusedVariables false
set_option linter.unusedSimpArgs false
set_option maxHeartbeats 16000000
open _root_.Go.Proofs.Tryz
set_option maxRecDepth 20000
theorem Zj:str "."=⟨#[46]⟩:=by kernel_rfl
theorem Wu:str "!"=⟨#[33]⟩:=by kernel_rfl
theorem Gf:str "subject"=⟨#[115,117,98,106,101,99,116]⟩:=by kernel_rfl
theorem Mx:str "action"=⟨#[97,99,116,105,111,110]⟩:=by kernel_rfl
theorem Wv:str "case"=⟨#[99,97,115,101]⟩:=by kernel_rfl
theorem Zk:str "env"=⟨#[101,110,118]⟩:=by kernel_rfl
theorem Bm:str "="=⟨#[61]⟩:=by kernel_rfl
theorem My:str "<"=⟨#[60]⟩:=by kernel_rfl
theorem Ww:str ">"=⟨#[62]⟩:=by kernel_rfl
theorem CA:str "true"=⟨#[116,114,117,101]⟩:=by kernel_rfl
theorem yJ:str "false"=⟨#[102,97,108,115,101]⟩:=by kernel_rfl
theorem ZD:str ","=⟨#[44]⟩:=by kernel_rfl
theorem JK:str "("=⟨#[40]⟩:=by kernel_rfl
theorem JL:str ")"=⟨#[41]⟩:=by kernel_rfl
theorem Wx:str "or"=⟨#[111,114]⟩:=by kernel_rfl
theorem Rf:str "and"=⟨#[97,110,100]⟩:=by kernel_rfl
theorem Gg:str "when"=⟨#[119,104,101,110]⟩:=by kernel_rfl
theorem Wy:str "on"=⟨#[111,110]⟩:=by kernel_rfl
theorem Wz:str "if"=⟨#[105,102]⟩:=by kernel_rfl
theorem Gh:str ";"=⟨#[59]⟩:=by kernel_rfl
theorem SK:qX=⟨#[123]⟩:=by kernel_rfl
theorem SL:yD=⟨#[125]⟩:=by kernel_rfl
theorem II:str "permit"=⟨#[112,101,114,109,105,116]⟩:=by kernel_rfl
theorem SM:str "deny"=⟨#[100,101,110,121]⟩:=by kernel_rfl
theorem Zl:str "log"=⟨#[108,111,103]⟩:=by kernel_rfl
theorem Mz:str "redact"=⟨#[114,101,100,97,99,116]⟩:=by kernel_rfl
theorem Na:str "review"=⟨#[114,101,118,105,101,119]⟩:=by kernel_rfl
theorem Nb:str "notify"=⟨#[110,111,116,105,102,121]⟩:=by kernel_rfl
theorem vS:str "policy"=⟨#[112,111,108,105,99,121]⟩:=by kernel_rfl
theorem JM:str "set"=⟨#[115,101,116]⟩:=by kernel_rfl
theorem Xa:str "role"=⟨#[114,111,108,101]⟩:=by kernel_rfl
theorem Xb:str "tick"=⟨#[116,105,99,107]⟩:=by kernel_rfl
theorem Gi:str "open"=⟨#[111,112,101,110]⟩:=by kernel_rfl
theorem CC:str "work"=⟨#[119,111,114,107]⟩:=by kernel_rfl
theorem SN:str "done"=⟨#[100,111,110,101]⟩:=by kernel_rfl
theorem vT:str "closed"=⟨#[99,108,111,115,101,100]⟩:=by kernel_rfl
theorem Tr:str "glass"=⟨#[103,108,97,115,115]⟩:=by kernel_rfl
theorem Xc:str "id"=⟨#[105,100]⟩:=by kernel_rfl
theorem Ts:str "owner"=⟨#[111,119,110,101,114]⟩:=by kernel_rfl
theorem Tt:str "state"=⟨#[115,116,97,116,101]⟩:=by kernel_rfl
theorem Nc:str "events"=⟨#[101,118,101,110,116,115]⟩:=by kernel_rfl
theorem Xd:str "took"=⟨#[116,111,111,107]⟩:=by kernel_rfl
theorem Xe:str "last"=⟨#[108,97,115,116]⟩:=by kernel_rfl
theorem Xf:str "name"=⟨#[110,97,109,101]⟩:=by kernel_rfl
theorem Tu:str "field"=⟨#[102,105,101,108,100]⟩:=by kernel_rfl
theorem aCb:str "to"=⟨#[116,111]⟩:=by kernel_rfl
theorem Zm:str "now"=⟨#[110,111,119]⟩:=by kernel_rfl
theorem aCc:str "f_"=⟨#[102,95]⟩:=by kernel_rfl
theorem QBW{p:Prop}(h:p:=by
 go_wp2_with fail;refine(HS2.o).mono ?_;rintro e w3 ⟨rfl,h3,k3⟩;have H3:=aA h3;have HK:=aA ((aJ HB2.o).trans k3);clear HS2 h3 k3;go_wp2;go_ret;exact⟨rfl,H3.o,HK.o⟩):p:=h
theorem ZE{p:Prop}(h:p:=by
 exact⟨0,Nat.zero_le _,rfl,HR0,aA (Below.refl _ _)⟩):p:=h
theorem CD{α:Type}{a0 a a2 a3 a4 a5 b:α}{l:List α}{p:Nat->α->Prop}(h:∀j x,(a0::a::a2::a3::a4::a5::b::l)[j]? =some x->p j x):p 0 a0/\p 1 a/\p 2 a2/\p 3 a3/\p 4 a4/\p 5 a5/\p 6 b:=⟨h 0 _ rfl,h 1 _ rfl,h 2 _ rfl,h 3 _ rfl,h 4 _ rfl,h 5 _ rfl,h 6 _ rfl⟩
theorem FM{α:Type}{a0 a a2 a3 a4:α}{l:List α}{p:Nat->α->Prop}(h:∀j x,(a0::a::a2::a3::a4::l)[j]? =some x->p j x):p 0 a0/\p 1 a/\p 2 a2/\p 3 a3/\p 4 a4:=⟨h 0 _ rfl,h 1 _ rfl,h 2 _ rfl,h 3 _ rfl,h 4 _ rfl⟩
theorem cR3{α:Type}{a0 a a2:α}{l:List α}{p:Nat->α->Prop}(h:∀j x,(a0::a::a2::l)[j]? =some x->p j x):p 0 a0/\p 1 a/\p 2 a2:=⟨h 0 _ rfl,h 1 _ rfl,h 2 _ rfl⟩
theorem JN(x:bY):∀(zs:List ByteArray) (i:Nat),Lib.idxFromS zs x i=if zs.findIdx (fun w=>decide (w=x))<zs.length then ((i+zs.findIdx (fun w=>decide (w=x)):Nat):Int) else -1
 | [],i=>rfl
 |z::zs,i=>by
  unfold Lib.idxFromS;rw[List.findIdx_cons];by_cases h:z=x
  .simp[h]
  .rw[dF h];simp only[cond_false,List.length_cons];rw[iN (by simpa using h),JN x zs (i+1)];by_cases h2:zs.findIdx (fun w=>decide (w=x))<zs.length
   .rw[iP h2,iP qo];congr 1;omega
   .rw[iN h2,iN qo]
theorem Nd(zs:List ByteArray)(x:bY):Lib.idxOfS zs x=if zs.findIdx (fun w=>decide (w=x))<zs.length then (zs.findIdx (fun w=>decide (w=x)):Int) else -1:=by
 unfold Lib.idxOfS;rw[JN];simp
def EH(w:World)(a:oD)(zs:List ByteArray):Prop:=∃b off,a=some ⟨b,off,none⟩/\b<w.heap.size/\∀j,j<zs.length->w.cell? ⟨b,off+j,none⟩=some (.string (zs.getD j ByteArray.empty))
theorem EH.on{w w':World}{a:oD}{zs:List ByteArray}(h:EH w a zs)(c:Below w.heap.size w w'):EH w' a zs:=by
 obtain⟨b,off,e,d,f⟩:=h;exact⟨b,off,e,lL d c.size,fun j hj=>(c.cell (p:=⟨b,off+j,none⟩) d).trans (f j hj)⟩
theorem WV(zs:List ByteArray)(a:oD)(c n:Nat)(f:zs.length=n)(x:bY)(w:World)(h:EH w a zs)(i:zs.length<=1000):
 Calls prog 188 #[.slice a n c,.string x] w fun e w'=>e=.returned (.int .i64 (if zs.findIdx (fun w=>decide (w=x))<zs.length then (zs.findIdx (fun w=>decide (w=x)):Int) else -1))/\w=w':=by
 obtain⟨b,off,rfl,g,d⟩:=h;refine(slices_Index_string b off n c zs x w qo qo d).mono ?_;rintro e w' ⟨rfl,rfl⟩;rw[<-f,List.take_length,Nd];exact⟨rfl,rfl⟩
theorem nC{L:List Tok}{p:PS}(T:Toks L)(zs:List ByteArray)(a:oD)(c n:Nat)(M:zs.length=n)(N:zs.length<=1000)(hp:p.at_<L.length)(g:Nat)(w:World)(h:PW L w g p)(hw:EH w a zs):
 Calls prog 140 #[.pointer (some ⟨g,0,none⟩),.slice a n c] w (eR L g w (.int .i64 (aZ L zs p).1) (aZ L zs p).2):=by
 have F:=T.len;obtain⟨j,H,y⟩:=aY (gH hp F g w h) h hw;have o:=aA (fun w h=>lQ hp F g w h);have i:=aA (fun s w h=>eL T s hp g w h);have b:=aA (fun x w h=>WV zs a c n M x w h N);clear h hw;unfold eR;unfold aZ;dsimp only;unfold gY at j;generalize aU L p=t at *;generalize dM L p=q at *;by_cases l:t.aCJ=1
 .have b0:(t.aCJ==1)=true:=bQ.2 l;have i:=aA (i.o t.str);have b:=aA (b.o t.str);by_cases v:zs.findIdx (fun w=>decide (w=t.str))<zs.length
  .rw[iP v] at b;have J:=aA v;unfold kL at i;generalize zs.findIdx (fun w=>decide (w=t.str))=A at *;generalize cL L t.str p=ip at *;have Q:(A:Int)<1000:=qo;have O:decide ((A:Int) ≥ 0)=true:=dX qo;have P:(0:Int)<=(A:Int):=qo
   cases ip
   .rw[iN (fun h=>absurd h.2.2 qe)];rw[iN qe] at i;clear l;go_enter func140,ntmps140;go_wp2_with fail;refine(j.o).mono ?_;rintro e w1 ⟨rfl,d⟩;have f:=aB w1 (.cells (oC t) 104);have HB2:=aA (aC d f);have m:=aA (H.o.on HB2.o);have k:=aA (b.o _ (y.o.on HB2.o));have r:=aA (i.o _ m.o);obtain⟨⟨B,C,D,E⟩,_⟩:=nK (heap_alloc_new w1 (.cells (oC t) 104));have z:w1.heap.size<(w1.alloc (.cells (oC t) 104)).heap.size:=by simp
    clear d f b H j i;go_wp2_with fail;refine(k.o).mono ?_;rintro e w' ⟨rfl,rfl⟩;clear k;go_wp2_with fail;refine(r.o).mono ?_;rintro e w3 ⟨rfl,h3,k3⟩;have H3:=aA h3;have HK:=aA ((aJ HB2.o).trans k3);clear r h3 k3 B C D E z;have HS2:=aA (o.o _ H3.o);clear o;go_wp2_with fail;refine(HS2.o).mono ?_;rintro e R ⟨rfl,h4,G⟩;have I:=aA h4;have K:=aA (HK.o.trans G);clear HS2 h4 G;go_wp2;go_ret;exact⟨rfl,I.o,K.o⟩
   .rw[iP ⟨l,J.o,rfl⟩];rw[iP rfl] at i;clear l o;go_enter func140,ntmps140;go_wp2_with fail;refine(j.o).mono ?_;rintro e w1 ⟨rfl,d⟩;have f:=aB w1 (.cells (oC t) 104);have HB2:=aA (aC d f);have m:=aA (H.o.on HB2.o);have k:=aA (b.o _ (y.o.on HB2.o));have r:=aA (i.o _ m.o);obtain⟨⟨B,C,D,E⟩,_⟩:=nK (heap_alloc_new w1 (.cells (oC t) 104));have z:w1.heap.size<(w1.alloc (.cells (oC t) 104)).heap.size:=by simp
    clear d f b H j i;go_wp2_with fail;refine(k.o).mono ?_;rintro e w' ⟨rfl,rfl⟩;clear k;go_wp2_with fail;refine(r.o).mono ?_;rintro e w3 ⟨rfl,h3,k3⟩;have H3:=aA h3;have HK:=aA ((aJ HB2.o).trans k3);clear r h3 k3 B C D E z;go_wp2;go_ret;exact⟨rfl,H3.o,HK.o⟩
  .rw[iN v] at b;rw[iN (fun h=>v h.2.1)];clear v l;go_enter func140,ntmps140;go_wp2_with fail;refine(j.o).mono ?_;rintro e w1 ⟨rfl,d⟩;have f:=aB w1 (.cells (oC t) 104);have HB2:=aA (aC d f);have m:=aA (H.o.on HB2.o);have k:=aA (b.o _ (y.o.on HB2.o));clear d f b H j;go_wp2_with fail;refine(k.o).mono ?_;rintro e w' ⟨rfl,rfl⟩;have HS2:=aA (o.o _ m.o);clear k o;exact QBW
 .have b0:(t.aCJ==1)=false:=bN.2 l;rw[iN (fun h=>l h.1)];clear l b i;go_enter func140,ntmps140;go_wp2_with fail;refine(j.o).mono ?_;rintro e w1 ⟨rfl,d⟩;have f:=aB w1 (.cells (oC t) 104);have HB2:=aA (aC d f);have m:=aA (H.o.on HB2.o);have HS2:=aA (o.o _ m.o);clear d f H j o;exact QBW
theorem cD{w:World}{g:Nat}{a b c:Value}{t:TypeId}(h:w.heap[g]? =some (.cells #[a,b,c] t (0,0))):
 (w.cell? ⟨g,0,none⟩=some a/\w.cell? ⟨g,1,none⟩=some b/\w.cell? ⟨g,2,none⟩=some c)/\w.frozen? ⟨g,0,none⟩=false/\w.frozen? ⟨g,1,none⟩=false/\w.frozen? ⟨g,2,none⟩=false:=
 ⟨⟨aQ h 0 _ rfl,aQ h 1 _ rfl,aQ h 2 _ rfl⟩,aR h 0,aR h 1,aR h 2⟩
theorem nD(w:World)(zs:List ByteArray)(cs:Array Value)(t:TypeId)(n:Nat)(a:w.heap.size=n)(h:cs=(zs.map Value.string).toArray):EH (w.alloc (.cells cs t)) (some ⟨n,0,none⟩) zs:=by
 subst a;refine⟨w.heap.size,0,rfl,qs,fun j hj=> ?_⟩;refine aQ (heap_alloc_new w (.cells cs t)) _ _ ?_;subst h;rw[Nat.zero_add];simp[hj]
theorem PW.step{L:List Tok}{w:World}{g:Nat}{p:PS}{v:Value}(h:PW L w g p)(a:v=.int .i64 ((p.at_+1:Nat):Int)):PW L (w.setCell ⟨g,1,none⟩ v) g {p with at_:=p.at_+1}:=by
 subst a;refine h.stay (aI _) fun A c h=> ?_
 rw[aG h 1 _];rfl
theorem cW.step{B g:Nat}{a w:World}(h:cW B g a w){i:Nat}{v:Value}:cW B g a (w.setCell ⟨g,i,none⟩ v):=h.aC1 (aI v)
theorem cW.alloc{B g:Nat}{a w:World}(h:cW B g a w){o:Obj}:cW B g a (w.alloc o):=h.new (aB w o)
theorem PW.alloc{L:List Tok}{w:World}{g:Nat}{p:PS}(h:PW L w g p){o:Obj}:PW L (w.alloc o) g p:=h.on (aB w o)
theorem aK(w:World)(o:Obj)(n:Nat)(a:w.heap.size=n):(w.alloc o).heap[n]? =some o:=by subst a;exact heap_alloc_new w o
theorem Zn{w:World}{g:Nat}{a0 a a2:Value}{t:TypeId}{m:Nat×Nat}(h:w.heap[g]? =some (.cells #[a0,a,a2] t m))(v:Value):(w.setCell ⟨g,0,none⟩ v).heap[g]? =some (.cells #[v,a,a2] t m):=aG h 0 v
theorem Zo{w:World}{g:Nat}{a0 a a2:Value}{t:TypeId}{m:Nat×Nat}(h:w.heap[g]? =some (.cells #[a0,a,a2] t m))(v:Value):(w.setCell ⟨g,1,none⟩ v).heap[g]? =some (.cells #[a0,v,a2] t m):=aG h 1 v
theorem Zp{w:World}{g:Nat}{a0 a a2 a3 a4:Value}{t:TypeId}{m:Nat×Nat}(h:w.heap[g]? =some (.cells #[a0,a,a2,a3,a4] t m))(v:Value):(w.setCell ⟨g,3,none⟩ v).heap[g]? =some (.cells #[a0,a,a2,v,a4] t m):=aG h 3 v
theorem Rg{w:World}{g:Nat}{a0 a a2 a3 a4:Value}{t:TypeId}{m:Nat×Nat}(h:w.heap[g]? =some (.cells #[a0,a,a2,a3,a4] t m))(v:Value):(w.setCell ⟨g,4,none⟩ v).heap[g]? =some (.cells #[a0,a,a2,a3,v] t m):=aG h 4 v
theorem Rh{w:World}{g:Nat}{a0 a a2 a3 a4 a5 b:Value}{t:TypeId}{m:Nat×Nat}(h:w.heap[g]? =some (.cells #[a0,a,a2,a3,a4,a5,b] t m))(v:Value):(w.setCell ⟨g,0,none⟩ v).heap[g]? =some (.cells #[v,a,a2,a3,a4,a5,b] t m):=aG h 0 v
theorem Ri{w:World}{g:Nat}{a0 b a2 a3 a4 a5 a:Value}{t:TypeId}{m:Nat×Nat}(h:w.heap[g]? =some (.cells #[a0,b,a2,a3,a4,a5,a] t m))(v:Value):(w.setCell ⟨g,1,none⟩ v).heap[g]? =some (.cells #[a0,v,a2,a3,a4,a5,a] t m):=aG h 1 v
theorem Rj{w:World}{g:Nat}{a0 a a2 a3 a4 a5 b:Value}{t:TypeId}{m:Nat×Nat}(h:w.heap[g]? =some (.cells #[a0,a,a2,a3,a4,a5,b] t m))(v:Value):(w.setCell ⟨g,2,none⟩ v).heap[g]? =some (.cells #[a0,a,v,a3,a4,a5,b] t m):=aG h 2 v
theorem JO{w:World}{g:Nat}{a0 a a2 a3 a4 a5 b:Value}{t:TypeId}{m:Nat×Nat}(h:w.heap[g]? =some (.cells #[a0,a,a2,a3,a4,a5,b] t m))(v:Value):(w.setCell ⟨g,3,none⟩ v).heap[g]? =some (.cells #[a0,a,a2,v,a4,a5,b] t m):=aG h 3 v
theorem Zq{w:World}{g:Nat}{a0 a a2 a3 a4 a5 b:Value}{t:TypeId}{m:Nat×Nat}(h:w.heap[g]? =some (.cells #[a0,a,a2,a3,a4,a5,b] t m))(v:Value):(w.setCell ⟨g,4,none⟩ v).heap[g]? =some (.cells #[a0,a,a2,a3,v,a5,b] t m):=aG h 4 v
theorem Zr{w:World}{g:Nat}{a0 a a2 a3 a4 a5 b:Value}{t:TypeId}{m:Nat×Nat}(h:w.heap[g]? =some (.cells #[a0,a,a2,a3,a4,a5,b] t m))(v:Value):(w.setCell ⟨g,5,none⟩ v).heap[g]? =some (.cells #[a0,a,a2,a3,a4,v,b] t m):=aG h 5 v
theorem fJ{w:World}{g:Nat}{a0 a:Value}{t:TypeId}(h:w.heap[g]? =some (.cells #[a0,a] t (0,0))):
 (w.cell? ⟨g,0,none⟩=some a0/\w.cell? ⟨g,1,none⟩=some a)/\w.frozen? ⟨g,0,none⟩=false/\w.frozen? ⟨g,1,none⟩=false:=
 ⟨⟨aQ h 0 _ rfl,aQ h 1 _ rfl⟩,aR h 0,aR h 1⟩
theorem dJ{w:World}{g:Nat}{a0 a a2 a3 a4:Value}{t:TypeId}(h:w.heap[g]? =some (.cells #[a0,a,a2,a3,a4] t (0,0))):
 (w.cell? ⟨g,0,none⟩=some a0/\w.cell? ⟨g,1,none⟩=some a/\w.cell? ⟨g,2,none⟩=some a2/\w.cell? ⟨g,3,none⟩=some a3/\w.cell? ⟨g,4,none⟩=some a4)/\w.frozen? ⟨g,0,none⟩=false/\w.frozen? ⟨g,1,none⟩=false/\w.frozen? ⟨g,2,none⟩=false/\w.frozen? ⟨g,3,none⟩=false/\w.frozen? ⟨g,4,none⟩=false:=
 ⟨⟨aQ h 0 _ rfl,aQ h 1 _ rfl,aQ h 2 _ rfl,aQ h 3 _ rfl,aQ h 4 _ rfl⟩,aR h 0,aR h 1,aR h 2,aR h 3,aR h 4⟩
theorem bI{w:World}{g:Nat}{a0 a a2 a3 a4 a5 b:Value}{t:TypeId}(h:w.heap[g]? =some (.cells #[a0,a,a2,a3,a4,a5,b] t (0,0))):
 (w.cell? ⟨g,0,none⟩=some a0/\w.cell? ⟨g,1,none⟩=some a/\w.cell? ⟨g,2,none⟩=some a2/\w.cell? ⟨g,3,none⟩=some a3/\w.cell? ⟨g,4,none⟩=some a4/\w.cell? ⟨g,5,none⟩=some a5/\w.cell? ⟨g,6,none⟩=some b)/\w.frozen? ⟨g,0,none⟩=false/\w.frozen? ⟨g,1,none⟩=false/\w.frozen? ⟨g,2,none⟩=false/\w.frozen? ⟨g,3,none⟩=false/\w.frozen? ⟨g,4,none⟩=false/\w.frozen? ⟨g,5,none⟩=false/\w.frozen? ⟨g,6,none⟩=false:=
 ⟨⟨aQ h 0 _ rfl,aQ h 1 _ rfl,aQ h 2 _ rfl,aQ h 3 _ rfl,aQ h 4 _ rfl,aQ h 5 _ rfl,aQ h 6 _ rfl⟩,aR h 0,aR h 1,aR h 2,aR h 3,aR h 4,aR h 5,aR h 6⟩
theorem bL{w:World}{g:Nat}{a0 a a2 a3 a4 a5 d e f a9 b c:Value}{t:TypeId}(h:w.heap[g]? =some (.cells #[a0,a,a2,a3,a4,a5,d,e,f,a9,b,c] t (0,0))):
 (w.cell? ⟨g,0,none⟩=some a0/\w.cell? ⟨g,1,none⟩=some a/\w.cell? ⟨g,2,none⟩=some a2/\w.cell? ⟨g,3,none⟩=some a3/\w.cell? ⟨g,4,none⟩=some a4/\w.cell? ⟨g,5,none⟩=some a5/\w.cell? ⟨g,6,none⟩=some d/\w.cell? ⟨g,7,none⟩=some e/\w.cell? ⟨g,8,none⟩=some f/\w.cell? ⟨g,9,none⟩=some a9/\w.cell? ⟨g,10,none⟩=some b/\w.cell? ⟨g,11,none⟩=some c)/\w.frozen? ⟨g,0,none⟩=false/\w.frozen? ⟨g,1,none⟩=false/\w.frozen? ⟨g,2,none⟩=false/\w.frozen? ⟨g,3,none⟩=false/\w.frozen? ⟨g,4,none⟩=false/\w.frozen? ⟨g,5,none⟩=false/\w.frozen? ⟨g,6,none⟩=false/\w.frozen? ⟨g,7,none⟩=false/\w.frozen? ⟨g,8,none⟩=false/\w.frozen? ⟨g,9,none⟩=false/\w.frozen? ⟨g,10,none⟩=false/\w.frozen? ⟨g,11,none⟩=false:=
 ⟨⟨aQ h 0 _ rfl,aQ h 1 _ rfl,aQ h 2 _ rfl,aQ h 3 _ rfl,aQ h 4 _ rfl,aQ h 5 _ rfl,aQ h 6 _ rfl,aQ h 7 _ rfl,aQ h 8 _ rfl,aQ h 9 _ rfl,aQ h 10 _ rfl,aQ h 11 _ rfl⟩,aR h 0,aR h 1,aR h 2,aR h 3,aR h 4,aR h 5,aR h 6,aR h 7,aR h 8,aR h 9,aR h 10,aR h 11⟩
abbrev iO(n:No):Array Value:=#[.int .i64 n.op,.int .i64 n.val.1,.int .i64 n.val.2.1,.string n.val.2.2,.int .i64 n.aDa.cat,.string n.aDa.name,.bool n.aDa.aDi]
abbrev JP(m:Ma):Array Value:=#[.int .i64 m.aDa.cat,.string m.aDa.name,.bool m.aDa.aDi,.int .i64 m.op,.int .i64 m.val.1,.int .i64 m.val.2.1,.string m.val.2.2]
abbrev fU:Array Value:=#[.int .i64 0,.int .i64 0,.string ⟨#[]⟩]
namespace Pv
theorem Bn(w:World)(x y z:Value)(t:TypeId):(w.alloc (.cells #[x,y,z] t)).cell? ⟨w.heap.size,0,none⟩=some x/\(w.alloc (.cells #[x,y,z] t)).cell? ⟨w.heap.size,1,none⟩=some y/\(w.alloc (.cells #[x,y,z] t)).cell? ⟨w.heap.size,2,none⟩=some z:=
 ⟨vR w _ _ _ 0 _ rfl,vR w _ _ _ 1 _ rfl,vR w _ _ _ 2 _ rfl⟩
def CE(v:V3):List UInt8:=nH v.1++(if v.1=3\/v.1=5 then uT v.2.2.data.toList else nH v.2.1)
def Xg(v:V3):Prop:=bK v.1/\bK v.2.1/\v.2.2.size<=1000000
theorem Gj{v:V3}(h:v.1=3\/v.1=5):CE v=nH v.1++uT v.2.2.data.toList:=by unfold CE;rw[iP h]
theorem Nf{v:V3}(h:¬(v.1=3\/v.1=5)):CE v=nH v.1++nH v.2.1:=by unfold CE;rw[iN h]
theorem NY(k:Int)(w:World):Calls prog 151 #[.int .i64 k] w fun e w'=>e=.returned (.bool (decide (k=3\/k=5)))/\w=w':=by
 by_cases h1:k=3
 .have HF:Hid (decide (k=3\/k=5)=true):=aA (dX (.inl h1));have b1:(k==3)=true:=bQ.2 h1;go_enter func151,ntmps151;exact YV
 .have b1:(k==3)=false:=bN.2 h1;by_cases h2:k=5
  .have HF:Hid (decide (k=3\/k=5)=true):=aA (dX (.inr h2));have b2:(k==5)=true:=bQ.2 h2;go_enter func151,ntmps151;exact YV
  .have HF:Hid (decide (k=3\/k=5)=false):=aA (dF (fun h=>h.elim h1 h2));have b2:(k==5)=false:=bN.2 h2;go_enter func151,ntmps151;exact YV
theorem qE{w:World}{l:lU}{e:Ending}{w':World}(h:oM w l e w'):∃A c,e=.returned (.slice A l.length c)/\Sl w' w'.heap.size A (bF l)/\w'.ownsRow w.heap.size 5 1 (.slice A l.length c) l.length (bF l)/\Below w.heap.size w w':=by
 obtain⟨v,rfl,a,b⟩:=h;obtain⟨A,c,rfl,_,d,_⟩:=lK a;exact⟨A,c,rfl,d,a,b⟩
theorem Ng(a:oD)(c n:Nat)(l:lU)(G:l.length=n)(v:V3)(j:Xg v)(w:World)(I:l.length<=100000000)(H:Sl w w.heap.size a (bF l)):
 Calls prog 123 #[.slice a n c,.agg #[.int .i64 v.1,.int .i64 v.2.1,.string v.2.2]] w (oM w (l++CE v)):=by
 have C:=aB w (.cells #[.int .i64 v.1,.int .i64 v.2.1,.string v.2.2] 44);have t:=aA (EA a c n v.1 l G _ j.1.1 j.1.2 qo (H.on C));obtain⟨z0,s,z2⟩:=Bn w (.int .i64 v.1) (.int .i64 v.2.1) (.string v.2.2) 44;have f:w.heap.size<(w.alloc (.cells #[.int .i64 v.1,.int .i64 v.2.1,.string v.2.2] 44)).heap.size:=by simp
 have g:=aA C;have B:=aA j;have h10:=sL v.1 j.1.1 j.1.2;have F:Hid ((l++nH v.1).length<=100000010):=aA (by rw[aL];omega);clear H G I C j h10;by_cases i:v.1=3\/v.1=5
 .have y:Hid (l++CE v=(l++nH v.1)++uT v.2.2.data.toList):=aA (by rw[Gj i,List.append_assoc]);have b:=NY v.1;rw[dX i] at b;have b:=aA b;clear i;generalize l++nH v.1=T at *;obtain⟨v0,v1,v2⟩:=v;simp only at z0 s z2 b g f;go_enter func123,ntmps123;go_wp2_with fail;refine t.o.mono ?_;intro e w1 h;obtain⟨A,c1,rfl,r,D,d⟩:=qE h;have E:=(d.cell (p:=⟨w.heap.size,0,none⟩) f).trans z0;have K:=(d.cell (p:=⟨w.heap.size,2,none⟩) f).trans z2;have k:=qB g d;have m:=aA (RX A c1 T.length v2 T rfl w1 (by have:=B.o.2.2;simp only at this;omega) (qA F.o) r);clear t h r D d z0 s z2 f g;go_wp2_with (go_at_call 151;refine(b.o w1).mono ?_;rintro e w' ⟨rfl,rfl⟩;clear b)
  refine m.o.mono ?_;rintro e w2 ⟨v,rfl,q,o⟩;have z:=aA (sM q k.o.size);have x:=qB k o;clear m q o E K;go_wp2;go_ret;exact⟨_,rfl,by rw[y.o];exact z.o,x.o⟩
 .have y:Hid (l++CE v=(l++nH v.1)++nH v.2.1):=aA (by rw[Nf i,List.append_assoc]);have b:=NY v.1;rw[dF i] at b;have b:=aA b;clear i;generalize l++nH v.1=T at *;obtain⟨v0,v1,v2⟩:=v;simp only at z0 s z2 b g f;go_enter func123,ntmps123;go_wp2_with fail;refine t.o.mono ?_;intro e w1 h;obtain⟨A,c1,rfl,r,D,d⟩:=qE h;have E:=(d.cell (p:=⟨w.heap.size,0,none⟩) f).trans z0;have J:=(d.cell (p:=⟨w.heap.size,1,none⟩) f).trans s;have k:=qB g d;have m:=aA (EA A c1 T.length v1 T rfl w1 B.o.2.1.1 B.o.2.1.2 (qA F.o) r);clear t h r D d z0 s z2 f g;go_wp2_with (go_at_call 151;refine(b.o w1).mono ?_;rintro e w' ⟨rfl,rfl⟩;clear b)
  refine m.o.mono ?_;rintro e w2 ⟨v,rfl,q,o⟩;have z:=aA (sM q k.o.size);have x:=qB k o;clear m q o E J;go_wp2;go_ret;exact⟨_,rfl,by rw[y.o];exact z.o,x.o⟩
end Pv
structure Op where
 aCJ:Int
 aCZ:ByteArray
 aCQ:ByteArray
 aC4:ByteArray
 to_:ByteArray
 val:V3
 aC6:Int
 text:ByteArray
 aC7:ByteArray
 aDc:Bool
deriving DecidableEq
def IJ:Op:=⟨0,ByteArray.empty,ByteArray.empty,ByteArray.empty,ByteArray.empty,bD,0,ByteArray.empty,ByteArray.empty,false⟩
structure tU where
 aCR:Int
 aDj:ByteArray
 aDN:ByteArray
deriving DecidableEq
structure cF where
 id:ByteArray
 aDb:ByteArray
 aC5:ByteArray
 aCP:List (ByteArray×V3)
 log:List tU
deriving DecidableEq
structure vU where
 id:Int
 aCR:Int
 aCZ:ByteArray
 aCQ:ByteArray
 action:ByteArray
 aC7:ByteArray
 open_:Bool
deriving DecidableEq
structure xP where
 aCR:Int
 aCQ:ByteArray
 arg:ByteArray
deriving DecidableEq
structure Sto where
 aCR:Int
 aCK:List cF
 aCO:List vU
 aCS:List xP
 aCX:List (ByteArray×ByteArray)
 aCL:Po
 aCW:Int
def wU:ByteArray:=⟨#[112,111,108,105,99,121,32,111,112,101,110,32,112,101,114,109,105,116,117,110,108,101,115,115,32,123,32,125]⟩
def mQ:Sto:=⟨0,[],[],[],[],(fD wU).1,0⟩
def gR(a b:bY):Bool:=decide (¬b.toList<a.toList)
def aW(s:Sto)(id:bY):Nat×Bool:=
 let i:=s.aCK.findIdx (fun c=>gR id c.id)
 if i<s.aCK.length then (i,decide (((s.aCK[i]?).map (·.id))=some id)) else (s.aCK.length,false)
def eT(s:Sto)(id:bY):Option cF:=if (aW s id).2 then s.aCK[(aW s id).1]? else none
def rS(s:Sto)(subject role:bY):Bool:=s.aCX.any (fun r=>decide (r=(subject,role)))
def gI(c:cF)(name:bY):V3:=((c.aCP.find? (fun f=>decide (f.1=name))).map (·.2)).getD bD
def zN:ByteArray:=str "open"
def uW:ByteArray:=str "work"
def EI:ByteArray:=str "done"
def oB:ByteArray:=str "closed"
def gV(a b:bY):Bool:=
 if a=zN then decide (b=uW) else if a=uW then decide (b=EI) else if a=EI then decide (b=uW)||decide (b=oB) else false
def xQ:List ByteArray:=["new","read","write","move","close","role","policy"].map str
def cJ(kind:Int):ByteArray:=if kind<1\/7<kind then str "tick" else (xQ[(kind - 1).toNat]?).getD (str "tick")
def mR(s:bY):Bool:=decide (s.size=0)||eK s
def jV(o:Op):Bool:=
 if o.aDc=false then decide (o.aC7.size=0) else (decide (1<=o.aCJ/\o.aCJ<=4)&&(decide (o.aC7.size≠0)&&decide (o.aC7.size<=64)))
def RM(o:Op):Op:={o with aCZ:=ByteArray.empty,aC7:=ByteArray.empty,aDc:=false}
def fV(o:Op):Bool:=
 let b:=RM o
 let k:={IJ with aCJ:=o.aCJ}
 if o.aCJ=1 then decide (o.aCQ.size≠0)&&decide (b={k with aCQ:=o.aCQ})
 else if o.aCJ=2\/o.aCJ=6 then (decide (o.aCQ.size≠0)&&decide (o.aC4.size≠0))&&decide (b={k with aCQ:=o.aCQ,aC4:=o.aC4})
 else if o.aCJ=3 then ((decide (o.aCQ.size≠0)&&decide (o.aC4.size≠0))&&decide (o.val≠bD))&&decide (b={k with aCQ:=o.aCQ,aC4:=o.aC4,val:=o.val})
 else if o.aCJ=4 then (decide (o.aCQ.size≠0)&&decide (o.to_.size≠0))&&decide (b={k with aCQ:=o.aCQ,to_:=o.to_})
 else if o.aCJ=5 then decide (0<o.aC6)&&decide (b={k with aC6:=o.aC6})
 else if o.aCJ=7 then decide (b={k with text:=o.text})
 else if o.aCJ=8 then (decide (0<o.aC6)&&decide (o.aC6<=1099511627776))&&decide (b={k with aC6:=o.aC6})
 else false
def gA(o:Op):Bool:=
 if eK o.aCZ=false\/jV o=false\/4096<o.text.size then false
 else if mR o.aCQ=false\/mR o.aC4=false\/mR o.to_=false\/(o.val≠bD/\aT o.val=false) then false
 else fV o
def iF(s:Sto)(o:Op):Int:=
 match eT s o.aCQ with
 |none=>10
 |some c=>
  if o.aCJ=3/\16<=c.aCP.length/\gI c o.aC4=bD then 6
  else if o.aCJ≠2/\256<=c.log.length then 6
  else if (o.aCJ=3/\c.aC5=oB)\/(o.aCJ=4/\gV c.aC5 o.to_=false) then 13
  else 0
def iQ(s:Sto)(o:Op):Int:=
 if (s.aCO.length:Int)<o.aC6 then 10
 else match s.aCO[(o.aC6 - 1).toNat]? with
  |none=>10
  |some r=>if r.open_=false then 10 else if r.aCZ=o.aCZ then 12 else 0
def dN(s:Sto)(o:Op):Int:=
 if gA o=false then 1
 else if o.aCJ=1 then (if (aW s o.aCQ).2 then 11 else if 64<=s.aCK.length then 6 else 0)
 else if o.aCJ=2\/o.aCJ=3\/o.aCJ=4 then iF s o
 else if o.aCJ=5 then iQ s o
 else if o.aCJ=6 then (if 64<=s.aCX.length/\rS s o.aCQ o.aC4=false then 6 else 0)
 else if o.aCJ=8 then (if 1099511627776 - o.aC6<s.aCR then 6 else 0)
 else 0
def CF(s:bY):V3:=(5,0,s)
def rT(cat:Int)(name:String)(bag:List V3):Gv:=(cat,str name,bag)
def nL(c:cF)(subject:bY):List Gv:=
 [rT 3 "id" [CF c.id],rT 3 "owner" [CF c.aDb],rT 3 "state" [CF c.aC5],rT 3 "events" [(2,c.log.length,ByteArray.empty)],
   rT 3 "took" [cH (c.log.any (fun h=>decide (h.aDj=subject)))]]
 ++(match c.log.getLast? with |some h=>[rT 3 "last" [CF h.aDj]]|none=>[])
 ++((c.aCP.filter (fun f=>decide (f.1.size<=14))).map (fun f=>((3,str "f_"++f.1,[f.2]):Gv)))
def pV(s:Sto)(o:Op):List Gv:=
 [rT 1 "id" [CF o.aCZ],rT 1 "role" (((s.aCX.filter (fun r=>decide (r.1=o.aCZ))).take 16).map (fun r=>CF r.2)),rT 2 "name" [CF (cJ o.aCJ)]]
 ++(if o.aC4.size≠0 then [rT 2 "field" [CF o.aC4]] else [])
 ++(if o.to_.size≠0 then [rT 2 "to" [CF o.to_]] else [])
 ++[rT 4 "now" [(4,s.aCR,ByteArray.empty)]]
 ++(match eT s o.aCQ with |some c=>if o.aCJ≠6 then nL c o.aCZ else []|none=>[])
def oE(s:Sto)(c:cF)(actor what:bY):cF:={c with log:=c.log++[⟨s.aCR,actor,what⟩]}
def nW(c:cF)(name:bY)(v:V3):cF:=
 let i:=c.aCP.findIdx (fun f=>gR name f.1)
 match c.aCP[i]? with
 |none=>{c with aCP:=c.aCP++[(name,v)]}
 |some f=>if f.1=name then {c with aCP:=c.aCP.set i (name,v)} else {c with aCP:=c.aCP.take i++[(name,v)]++c.aCP.drop i}
def fE(s:Sto)(i:Nat)(f:cF->cF):Sto:={s with aCK:=match s.aCK[i]? with |some c=>s.aCK.set i (f c)|none=>s.aCK}
def dH(s:Sto)(o:Op):Sto:=
 if dN s o≠0 then s
 else
  let i:=(aW s o.aCQ).1
  if o.aCJ=1 then {s with aCK:=s.aCK.take i++[oE s ⟨o.aCQ,o.aCZ,zN,[],[]⟩ o.aCZ (str "new")]++s.aCK.drop i}
  else if o.aCJ=3 then fE s i (fun c=>oE s (nW c o.aC4 o.val) o.aCZ (str "write"))
  else if o.aCJ=4 then fE s i (fun c=>oE s {c with aC5:=o.to_} o.aCZ o.to_)
  else if o.aCJ=5 then {s with aCO:=match s.aCO[(o.aC6 - 1).toNat]? with |some r=>s.aCO.set (o.aC6 - 1).toNat {r with open_:=false} |none=>s.aCO}
  else if o.aCJ=6 then (if rS s o.aCQ o.aC4 then s else {s with aCX:=s.aCX++[(o.aCQ,o.aC4)]})
  else if o.aCJ=7 then (if (fD o.text).2.1=0 then {s with aCL:=(fD o.text).1,aCW:=s.aCW+1} else s)
  else if o.aCJ=8 then {s with aCR:=s.aCR+o.aC6}
  else s
def NZ:ByteArray:=str "glass"
def RN(s:Sto)(subject:bY):Bool:=s.aCO.any (fun r=>decide (r.aCZ=subject)&&(r.open_&&decide (100<=s.aCR - r.aCR)))
def jE(s:Sto)(o:Op)(m:Mk):Bool:=o.aDc&&((decide (m=(0,4))||decide (m=(0,0)))&&(rS s o.aCZ NZ&& !RN s o.aCZ))
def gB(s:Sto)(o:Op)(reason:bY):Sto:={s with aCO:=s.aCO++[⟨s.aCO.length+1,s.aCR,o.aCZ,o.aCQ,cJ o.aCJ,reason,true⟩]}
def lS(s:Sto)(o:Op)(what:bY):Sto:=
 let i:=s.aCK.findIdx (fun c=>decide (c.id=o.aCQ))
 if i<s.aCK.length/\o.aCJ≠6 then fE s i (fun c=>oE s c o.aCZ what) else s
def cX(o:Op)(done:Bool)(s:Sto)(x:Ob):Sto:=
 if x.aCJ=1/\done=true then lS s o x.arg
 else if x.aCJ=3 then gB s o x.arg
 else if x.aCJ=4 then {s with aCS:=s.aCS++[⟨s.aCR,o.aCQ,x.arg⟩]}
 else s
def qM(s:Sto):Bool:=decide (256<s.aCO.length)||(decide (256<s.aCS.length)||s.aCK.any (fun c=>decide (256<c.log.length)))
structure Rpl where
 err:Int
 mark:Mk
 aDc:Bool
 val:V3
 hidden:Bool
 at_:Int
def qN:Rpl:=⟨0,(0,0),false,bD,false,0⟩
structure Deci where
 op:Op
 aCW:Int
 mark:Mk
 aDc:Bool
 aC0:List Ob
def cP(s:Sto)(o:Op):Sto×Rpl×Option Deci×Int:=
 let e:=dN s o
 let a:Int×Int:=if e=0/\o.aCJ=7 then (fD o.text).2 else (e,0)
 if a.1≠0 then (s,{qN with err:=a.1,at_:=a.2},none,a.1)
 else
  let (r,e2):=iE (pV s o) s.aCL
  if e2≠0 then (s,{qN with err:=e2,at_:=a.2},none,e2)
  else
   let glass:=jE s o r.1
   let done:=decide (r.1=(4,0))||glass
   let b:=if glass then gB s o o.aC7 else s
   let f:=if done then dH b o else b
   let hidden:=done&&(decide (o.aCJ=2)&&r.2.any (fun x=>decide (x.aCJ=2)&&decide (x.arg=o.aC4)))
   let val:=if done&&(decide (o.aCJ=2)&& !hidden) then ((eT s o.aCQ).map (fun c=>gI c o.aC4)).getD bD else bD
   let d:=r.2.foldl (cX o done) f
   if qM d then (s,{qN with err:=6,at_:=a.2},none,6)
   else (d,⟨if done then 0 else 12,r.1,glass,val,hidden,0⟩,some ⟨o,s.aCW,r.1,glass,r.2⟩,0)
def cN(l:lU):List UInt8×List UInt8:=(l.takeWhile (fun c=>decide (c.toNat≠32)),(l.dropWhile (fun c=>decide (c.toNat≠32))).drop 1)
def oS(l:lU):Option V3:=
 match jM l with
 |([t,_],0,_)=>
  if t.aCJ=2 then some (2,t.num,t.str) else if t.aCJ=3 then some (4,t.num,t.str) else if t.aCJ=4 then some (5,t.num,t.str)
  else if t.aCJ=5 then some (3,t.num,t.str)
  else if t.aCJ=1 then (if t.str=str "true" then some (1,1,ByteArray.empty) else if t.str=str "false" then some (1,0,ByteArray.empty) else none)
  else none
 |_=>none
def jF(l:lU):Int:=if l=[]\/9<l.length\/l.head?=some 48\/l.all bA=false then 0 else (pS l:Int)
def oH(w:lU):Int:=let i:=(xQ++[str "tick"]).findIdx (fun x=>decide (x=bs w));if i<8 then (i:Int)+1 else 0
def jW(a:lU):Bool×List UInt8×List UInt8:=match a with
 |33 ::r=>(true,(cN r).1,(cN r).2)
 |r=>(false,[],r)
def kW(l:lU):Option Op:=
 let (subj,r0):=cN l
 let (glass,reason,r1):=jW r0
 let (w,r2):=cN r1
 let k:=oH w
 let base:Op:={IJ with aCJ:=k,aCZ:=bs subj,aC7:=bs reason,aDc:=glass}
 let o:Option Op:=
  if k=1 then some {base with aCQ:=bs r2}
  else if k=2\/k=6 then some {base with aCQ:=bs (cN r2).1,aC4:=bs (cN r2).2}
  else if k=3 then (oS (cN (cN r2).2).2).map (fun v=>{base with aCQ:=bs (cN r2).1,aC4:=bs (cN (cN r2).2).1,val:=v})
  else if k=4 then some {base with aCQ:=bs (cN r2).1,to_:=bs (cN r2).2}
  else if k=5\/k=8 then some {base with aC6:=jF r2}
  else if k=7 then some {base with text:=bs r2}
  else some base
 match o with
 |some o=>if gA o then some o else none
 |none=>none
theorem QDk{p:Prop}(h:p:=by
 go_wp2;refine bR (.agg #[.int .i64 1,.int .i64 1,.string ⟨#[]⟩]) ?_;exact⟨rfl,HBE.o _ _⟩):p:=h
theorem QDj{p:Prop}(h:p:=by
 go_wp2;refine bR (.agg #[.int .i64 1,.int .i64 0,.string ⟨#[]⟩]) ?_;exact⟨rfl,HBE.o _ _⟩):p:=h
abbrev pQ:=ByteArray×V3
abbrev wV:=ByteArray×ByteArray
def vJ(h:tU):Prop:=bK h.aCR/\h.aDj.size<=cQ/\h.aDN.size<=cQ
def CG(h:tU):List Value:=[.int .i64 h.aCR,.string h.aDj,.string h.aDN]
def EJ(f:pQ):Prop:=f.1.size<=cQ/\cS f.2
def tV(f:pQ):List Value:=[.string f.1,.int .i64 f.2.1,.int .i64 f.2.2.1,.string f.2.2.2]
def EK(r:vU):Prop:=bK r.id/\bK r.aCR/\r.aCZ.size<=cQ/\r.aCQ.size<=cQ/\r.action.size<=cQ/\r.aC7.size<=cQ
def JQ(r:vU):List Value:=[.int .i64 r.id,.int .i64 r.aCR,.string r.aCZ,.string r.aCQ,.string r.action,.string r.aC7,.bool r.open_]
def EL(n:xP):Prop:=bK n.aCR/\n.aCQ.size<=cQ/\n.arg.size<=cQ
def JR(n:xP):List Value:=[.int .i64 n.aCR,.string n.aCQ,.string n.arg]
def MF(r:wV):Prop:=r.1.size<=cQ/\r.2.size<=cQ
def SO(r:wV):List Value:=[.string r.1,.string r.2]
def mS:Rep tU:=mK CG vJ
def lE:Rep pQ:=mK tV EJ
def sR:Rep vU:=mK JQ EK
def vV:Rep xP:=mK JR EL
def qT:Rep wV:=mK SO MF
theorem bW:Firm mS 3:=gD (fun _=>rfl) (fun x v h=>by simp only[CG,List.mem_cons,List.not_mem_nil,or_false] at h;rcases h with rfl|rfl|rfl<;>rfl)
theorem bP:Firm lE 4:=gD (fun _=>rfl) (fun x v h=>by simp only[tV,List.mem_cons,List.not_mem_nil,or_false] at h;rcases h with rfl|rfl|rfl|rfl<;>rfl)
theorem cT:Firm sR 7:=gD (fun _=>rfl) (fun x v h=>by simp only[JQ,List.mem_cons,List.not_mem_nil,or_false] at h;rcases h with rfl|rfl|rfl|rfl|rfl|rfl|rfl<;>rfl)
theorem dZ:Firm vV 3:=gD (fun _=>rfl) (fun x v h=>by simp only[JR,List.mem_cons,List.not_mem_nil,or_false] at h;rcases h with rfl|rfl|rfl<;>rfl)
theorem dA:Firm qT 2:=gD (fun _=>rfl) (fun x v h=>by simp only[SO,List.mem_cons,List.not_mem_nil,or_false] at h;rcases h with rfl|rfl<;>rfl)
def oT(w:World)(ok:nP)(c:cF)(a b:Value):Prop:=c.id.size<=cQ/\c.aDb.size<=cQ/\c.aC5.size<=cQ/\aH lE w ok a c.aCP/\aH mS w ok b c.log
def pW:Rep cF:=fun w ok cs c=>∃a b,cs=[.string c.id,.string c.aDb,.string c.aC5,a,b]/\oT w ok c a b
theorem oT.aCT{w w':World}{ok:nP}{c:cF}{b d:Value}(h:oT w ok c b d)(a:aN ok w w'):oT w' ok c b d:=⟨h.1,h.2.1,h.2.2.1,aH.aCT bP h.2.2.2.1 a,aH.aCT bW h.2.2.2.2 a⟩
theorem oT.more{w:World}{ok ok':nP}{c:cF}{d e:Value}(h:oT w ok c d e)(a:∀b,ok b->ok' b):oT w ok' c d e:=⟨h.1,h.2.1,h.2.2.1,aH.more bP h.2.2.2.1 a,aH.more bW h.2.2.2.2 a⟩
theorem oT.inb{w:World}{ok:nP}{c:cF}{a d:Value}(h:oT w ok c a d):oT w (fun b=>ok b/\b<w.heap.size) c a d:=⟨h.1,h.2.1,h.2.2.1,aH.inb bP h.2.2.2.1,aH.inb bW h.2.2.2.2⟩
theorem dK:Firm pW 5:={
 aCT:=fun⟨a,b,e,h⟩ d=>⟨a,b,e,h.aCT d⟩
 more:=fun⟨a,b,e,h⟩ f=>⟨a,b,e,h.more f⟩
 len:=fun⟨a,b,e,h⟩=>by rw[e];rfl
 one:=fun⟨a,b,e,h⟩=>by
  intro v c;rw[e] at c;simp only[List.mem_cons,List.not_mem_nil,or_false] at c
  rcases c with rfl|rfl|rfl|rfl|rfl
  .rfl
  .rfl
  .rfl
  .exact kU h.2.2.2.1
  .exact kU h.2.2.2.2
 inb:=fun⟨a,b,e,h⟩=>⟨a,b,e,h.inb⟩}
def FN(w:World)(ok:nP)(g:Gv)(vb:Value):Prop:=bK g.1/\g.2.1.size<=cQ/\aH VR w ok vb g.2.2
def jN:Rep Gv:=fun w ok cs g=>∃vb,cs=[.int .i64 g.1,.string g.2.1,vb]/\FN w ok g vb
theorem FN.aCT{w w':World}{ok:nP}{g:Gv}{vb:Value}(h:FN w ok g vb)(a:aN ok w w'):FN w' ok g vb:=⟨h.1,h.2.1,aH.aCT bG h.2.2 a⟩
theorem FN.more{w:World}{ok ok':nP}{g:Gv}{vb:Value}(h:FN w ok g vb)(a:∀b,ok b->ok' b):FN w ok' g vb:=⟨h.1,h.2.1,aH.more bG h.2.2 a⟩
theorem FN.inb{w:World}{ok:nP}{g:Gv}{vb:Value}(h:FN w ok g vb):FN w (fun b=>ok b/\b<w.heap.size) g vb:=⟨h.1,h.2.1,aH.inb bG h.2.2⟩
theorem cA:Firm jN 3:={
 aCT:=fun⟨vb,e,h⟩ b=>⟨vb,e,h.aCT b⟩
 more:=fun⟨vb,e,h⟩ c=>⟨vb,e,h.more c⟩
 len:=fun⟨vb,e,h⟩=>by rw[e];rfl
 one:=fun⟨vb,e,h⟩=>by
  intro v a;rw[e] at a;simp only[List.mem_cons,List.not_mem_nil,or_false] at a
  rcases a with rfl|rfl|rfl
  .rfl
  .rfl
  .exact kU h.2.2
 inb:=fun⟨vb,e,h⟩=>⟨vb,e,h.inb⟩}
structure eZ (w:World) (ok:Nat->Prop) (s:Sto) (vc vr vn vo vt vu vk vb:Value):Prop where
 aCR:bK s.aCR
 aCW:bK s.aCW
 aCK:aH pW w ok vc s.aCK
 aCO:aH sR w ok vr s.aCO
 aCS:aH vV w ok vn s.aCS
 aCX:aH qT w ok vo s.aCX
 aCL:fM 3 w ok s.aCL vt vu vk vb
def aV(s:Sto)(vc vr vn vo vt vu vk vb:Value):Array Value:=#[.int .i64 s.aCR,vc,vr,vn,vo,.string s.aCL.id,.bool s.aCL.set,.int .i64 s.aCL.alg,vt,vu,vk,vb,.int .i64 s.aCW]
theorem eZ.aCT{w w':World}{ok:nP}{s:Sto}{vc vr vn vo vt vu vk vb:Value}(h:eZ w ok s vc vr vn vo vt vu vk vb)(a:aN ok w w'):eZ w' ok s vc vr vn vo vt vu vk vb:=
 ⟨h.aCR,h.aCW,aH.aCT dK h.aCK a,aH.aCT cT h.aCO a,aH.aCT dZ h.aCS a,aH.aCT dA h.aCX a,h.aCL.aCT a⟩
theorem eZ.more{w:World}{ok ok':nP}{s:Sto}{vc vr vn vo vt vu vk vb:Value}(h:eZ w ok s vc vr vn vo vt vu vk vb)(a:∀b,ok b->ok' b):eZ w ok' s vc vr vn vo vt vu vk vb:=
 ⟨h.aCR,h.aCW,aH.more dK h.aCK a,aH.more cT h.aCO a,aH.more dZ h.aCS a,aH.more dA h.aCX a,h.aCL.more a⟩
theorem eZ.inb{w:World}{ok:nP}{s:Sto}{vc vr vn vo vt vu vk vb:Value}(h:eZ w ok s vc vr vn vo vt vu vk vb):eZ w (fun b=>ok b/\b<w.heap.size) s vc vr vn vo vt vu vk vb:=
 ⟨h.aCR,h.aCW,aH.inb dK h.aCK,aH.inb cT h.aCO,aH.inb dZ h.aCS,aH.inb dA h.aCX,h.aCL.inb⟩
theorem eZ.on{w w':World}{ok:nP}{s:Sto}{vc vr vn vo vt vu vk vb:Value}(h:eZ w ok s vc vr vn vo vt vu vk vb)(a:Below w.heap.size w w'):eZ w' ok s vc vr vn vo vt vu vk vb:=h.aCT (aJ a)
def kG(o:Op):Prop:=bK o.aCJ/\o.aCZ.size<=cQ/\o.aCQ.size<=cQ/\o.aC4.size<=cQ/\o.to_.size<=cQ/\cS o.val/\bK o.aC6/\o.text.size<=cQ/\o.aC7.size<=cQ
def bZ(o:Op):Array Value:=#[.int .i64 o.aCJ,.string o.aCZ,.string o.aCQ,.string o.aC4,.string o.to_,.int .i64 o.val.1,.int .i64 o.val.2.1,.string o.val.2.2,.int .i64 o.aC6,.string o.text,.string o.aC7,.bool o.aDc]
def fA(o:Op):Value:= .agg (bZ o)
theorem aM.cut{α:Type}{R:Rep α}{s:Nat}{e:TypeId}{w:World}{base:Nat}{ok:nP}(F:Firm R s){a:oD}{n c:Nat}{l:List α}(h:aM R s e w base ok (.slice a n c) l)(m:Nat)(hm:m<=l.length):aM R s e w base ok (.slice a m c) (l.take m):=by
 obtain⟨cs,h1,h2⟩:=h;have q:(Value.slice a m c).ownBlock=(Value.slice a n c).ownBlock:=by cases a<;>rfl
 have p:(l.take m).length=m:=by rw[List.length_take];omega
 refine⟨cs.take (m * s),?_,?_⟩
 .rw[p];refine⟨by rw[List.length_take,h1.1];exact Nat.min_eq_left (Nat.mul_le_mul_right s hm),?_⟩
  rcases h1.2 with ⟨d,t⟩|⟨g,cap,cur,d,h3,h4,h5,h6,h7,h8⟩
  .injection d with f o i;subst f i;exact .inl ⟨by rw[show m=0 by omega],qo⟩
  .injection d with f o i;subst f i;refine .inr ⟨g,c,cur,rfl,h3,h4,qo,h6,h7,?_⟩;rw[<-h8,List.take_take]
   congr 1
   exact(Nat.min_eq_left (Nat.mul_le_mul_right s hm)).symm
 .exact(aX.split (fun _ _ k=>F.len k) m h2 hm).1.mono fun r x k=>F.more k fun b j=>⟨j.1,j.2.1,by rw[q];exact j.2.2⟩
theorem aM.place{α:Type}{R:Rep α}{s:Nat}{e:TypeId}{w:World}{base:Nat}{ok:nP}{a:oD}{n c:Nat}{l:List α}(h:aM R s e w base ok (.slice a n c) l):((a=none/\c=0)\/∃g,a=some ⟨g,0,none⟩)/\l.length<=c/\c<=maxLen:=by
 obtain⟨cs,h1,h2⟩:=h
 rcases h1.2 with ⟨b,j⟩|⟨g,cap,cur,b,h3,h4,h5,h6,h7,h8⟩
 .injection b with d i f;exact⟨.inl ⟨d,f⟩,qo,by unfold maxLen;omega⟩
 .injection b with d i f;subst f;exact⟨.inr ⟨g,d⟩,h5,h6⟩
theorem iV{α:Type}{R:Rep α}{s:Nat}{P:Program}{w:World}{t e:TypeId}{bytes:Nat}{base:Nat}{ok:nP}(E:dV P t e s bytes)(F:Firm R s){ops:Array Oper}{o:Oper}{a:Act}{K:Act->World->Prop}{Q:Exit->Act->World->Prop}{G:Prop}(k:o.guard=none)(d x:Operand)
 (m:o.op=.call {callee:= .builtin .append,args:=#[d,x],argTypes:=#[t,t]})
 (v:Value)(l:List α)(p:a.eval d=v)(f:aM R s e w base ok v l)
 (g c:Nat)(cs:Array Value)(ty:TypeId)(fr:Nat×Nat)(y:α)(q:a.eval x=.slice (some ⟨g,0,none⟩) 1 c)(hc:w.heap[g]? =some (.cells cs ty fr))(hy:R w (fun b=>ok b/\b<w.heap.size/\some b≠v.ownBlock) cs.toList y)
 (h63:l.length<=1000000)(hbytes:bytes<=10000)(j:base<=w.heap.size)
 (h:∀l',Hid (l'=l++[y])->∀A' c' w',aM R s e w' base ok (.slice A' l'.length c') l'->w.grownBy w' v.ownBlock->((Value.slice A' l'.length c').ownBlock=v.ownBlock\/(Value.slice A' l'.length c').ownBlock=some w.heap.size)->K (a.put o.dst (.slice A' l'.length c')) w'):if Region.wanted o (yielded ops a.tmps)=true then Oper.wp P o a w K Q else G:=by
 obtain⟨xs,n,hcs⟩:=f;have hlen:cs.toList.length=1 * s:=by rw[F.len hy];omega
 refine Mi E k d x m base v l.length xs p n (some ⟨g,0,none⟩) 1 c cs.toList q hlen ?_ (F.one hy) (by unfold maxLen;omega) ?_ j fun A' c' w' h1 h2 h3=> ?_
 .exact QCr
 .exact QCL
 .exact QCc
theorem QDc{p:Prop}(h:p:=by
 subst hji;obtain⟨v1,hv1,he⟩:=hy w hw;exact Bo hi hv1 ⟨fun _=>hw,by rw[he];exact H⟩):p:=h
abbrev Rk:Exit->Act->World->Prop:=fun _ _ _=>False
section
variable {P:Program} {ops:Array Oper} {md:Region.Mode} {C:World->Prop} {Q:Exit->Act->World->Prop}
def uR(P:Program)(ops:Array Oper)(i:Nat)(K:Act->World->Prop)(a:Act)(w:World):Prop:=
 match ops[i]? with
 |none=>False
 |some o=>if Region.wanted o (yielded ops a.tmps)=true then o.wp P a w K Rk else K (a.put o.dst undef) w
theorem sS{o:Oper}{a:Act}{K K':Act->World->Prop}{g:Exit->Act->World->Prop}(h:∀a w,K a w->K' a w){r:Result Next}(b:o.upon P a K Rk r):o.upon P a K' g r:=by
 cases r with
 |ok n w'=>
  cases n with
  |value v=>exact h _ _ b
  |skip=>exact h _ _ b
  |enter f args=>
   refine Calls.mono b fun e i d=> ?_
   cases e with
   |returned v=>exact h _ _ d
   |panicked c=>exact(d:False).elim
   |outgrown=>obtain⟨_,_,h0⟩:=(d:LetsOut Rk);exact(h0:False).elim
  |row r args=>exact Rows.mono b fun v i d=>h _ _ d
  |_=>first|exact(b:False).elim|exact h _ _ b
 |halt x w'=>
  cases x with
  |panic v=>exact(b:False).elim
  |_=>exact(b:False).elim
theorem SP{i:Nat}{K K':Act->World->Prop}{a:Act}{w:World}(h:∀a w,K a w->K' a w)(b:uR P ops i K a w):uR P ops i K' a w:=by
 unfold uR at *;split
 .rename_i h0;simp only[h0] at b
 .rename_i o h0;simp only[h0] at b;split
  .rename_i hw;rw[iP hw] at b;exact sS h b
  .rename_i hw;rw[iN hw] at b;exact h _ _ b
theorem WY{i:Nat}{K K':Act->World->Prop}{a:Act}{w:World}(h:∀a w,K a w->K' a w)(b:uR P ops i K a w):wpOp P ops Q i K' a w:=by
 unfold uR at b;unfold wpOp;split
 .rename_i h0;simp only[h0] at b
 .rename_i o h0;simp only[h0] at b;split
  .rename_i hw;rw[iP hw] at b;exact .inl (sS h b)
  .rename_i hw;rw[iN hw] at b;exact h _ _ b
theorem Tv{j:Nat}{g i:Oper}{v:Value}(hj:ops[j]? =some i)(p:g.apart ops i=true)
 (y:∀cs b,g.op≠ .select cs b)(s:∀cs b,i.op≠ .select cs b){K:Act->World->Prop}{a:Act}{w:World}{Y:Act->Prop}
 (k:∀a u,Y a->Y (a.put i.dst u))(q:∀a d,Y a->Y {a with defers:=d::a.defers})(l:Y a)(h:uR P ops j K (a.put g.dst v) w):
 uR P ops j (fun o w'=>Y o/\K (o.put g.dst v) w') a w:=by
 obtain⟨h1,h2,h3⟩:=Oper.apart_spec p;unfold uR at *;simp only[hj] at *;rw[wanted_put i a g.dst v h1] at h;split
 .rename_i hw;simp only[hw,if_true] at h;unfold Oper.wp at *;rw[execOp_put i s a g.dst v h1] at h;generalize (execOp a.eval i).run P w=r at *
  cases r with
  |ok n w'=>
   cases n with
   |value u=>exact⟨k a u l,by rw[<-Act.put_comm a v u h2];exact h⟩
   |skip=>exact⟨k a undef l,by rw[<-Act.put_comm a v undef h2];exact h⟩
   |enter f args=>
    refine Calls.mono h fun e t m=> ?_
    cases e with
    |returned u=>exact⟨k a u l,by rw[<-Act.put_comm a v u h2];exact m⟩
    |panicked c=>exact m
    |outgrown=>exact m
   |row r args=>exact Rows.mono h fun u t m=>⟨k a u l,by rw[<-Act.put_comm a v u h2];exact m⟩
   |_=>
    first
    |exact(h:False).elim
    |(rename_i d
      refine⟨k _ undef (q a d l),?_⟩;have h4:K (({a.put g.dst v with defers:=d::(a.put g.dst v).defers}:Act).put i.dst undef) w':=h;rw[Act.put_defers,Act.put_comm _ v undef h2] at h4;exact h4)
  |halt x w'=>
   cases x with
   |panic v=>exact(h:False).elim
   |_=>exact(h:False).elim
 .rename_i hw;simp only[hw] at h;exact⟨k a undef l,by rw[<-Act.put_comm a v undef h2];exact h⟩
def oU(P:Program)(md:Region.Mode)(ops:Array Oper)(C:World->Prop)(n:Nat)(Q:Act->World->Prop):Nat->Array Bool->Act->World->Prop
 |0,listed,a,w=>Region.ready md ops listed=[]/\Q a w
 |f+1,listed,a,w=>(Region.ready md ops listed=[]->Q a w)/\∀i∈Region.ready md ops listed,uR P ops i (fun b w'=>(i<n->C w')/\oU P md ops C n Q f (listed.setIfInBounds i true) b w') a w
theorem xR{n:Nat}:∀(f:Nat) (listed:Array Bool) (a:Act) (w:World),oU P md ops C n (fun a w=>Q .normal a w) f listed a w->wpAny P md ops Q f listed a w
 |0,_,_,_,h=>h
 |f+1,_,_,_,h=>⟨h.1,fun i d=>WY (fun b w' c=>xR f _ b w' c.2) (h.2 i d)⟩
def CH(P:Program)(ops:Array Oper)(C:World->Prop)(o:Oper)(v:Value)(a:Act):Prop:=∀w,C w->∃v1,YieldsAt P ops w o v1 a/\a.put o.dst v1=a.put o.dst v
theorem Bo{i:Nat}{o:Oper}{v:Value}{a:Act}{w:World}(d:ops[i]? =some o)(g:YieldsAt P ops w o v a){K:Act->World->Prop}(h:K (a.put o.dst v) w):uR P ops i K a w:=by
 unfold uR;simp only[d]
 rcases g with ⟨hw,b|⟨b,rfl⟩|⟨f,args,b,c⟩⟩|⟨hw,rfl⟩
 .simp only[hw,if_true,Oper.wp,b,Oper.upon];exact h
 .simp only[hw,if_true,Oper.wp,b,Oper.upon];exact h
 .simp only[hw,if_true,Oper.wp,b,Oper.upon];refine c.mono fun e j he=> ?_
  obtain⟨rfl,rfl⟩:=he;exact h
 .simp only[hw,Bool.false_eq_true,if_false];exact h
theorem JS{n i:Nat}{c:Oper}{v:Value}{Q:Act->World->Prop}(hi:ops[i]? =some c)(z:∀(j:Nat) (o:Oper) cs b,ops[j]? =some o->o.op≠ .select cs b)
 (S:Region.sinkB md ops n=true)(G:Region.chainB md ops n=true)(N:n<ops.size)(K:i<n):
 ∀(f:Nat) (listed:Array Bool) (a:Act) (w:World),HeadInv md ops n listed->
  (∀j g,ops[j]? =some g->j≠i->listed.getD j true=false->(∀e∈g.after,Region.binds md e=true->e.on≠i)->c.apart ops g=true)->
  i∈Region.ready md ops listed->C w->CH P ops C c v a->
  oU P md ops C n Q f (listed.setIfInBounds i true) (a.put c.dst v) w->oU P md ops C n Q (f+1) listed a w:=by
 intro f
 induction f with
 |zero=>
  intro listed a w inv _ l hw hy H;refine⟨fun h=>(by rw[h] at l;cases l),fun j hj=> ?_⟩;by_cases hji:j=i
  .exact QDc
  .have:=ready_mono hj hji;rw[H.1] at this
   cases this
 |succ f T=>
  intro listed a w inv s l hw hy H;refine⟨fun h=>(by rw[h] at l;cases l),fun j hj=> ?_⟩;by_cases hji:j=i
  .exact QDc
  .have h1:=H.2 j (ready_mono hj hji);obtain⟨y,g,q,E⟩:=mem_ready.1 hj;have x:j<n:=by
    rcases Nat.lt_or_ge j n with h|h
    .exact h
    .exact absurd hj (tail_waits S G N inv (n - i) i rfl K (mem_ready.1 l).1 j h)
   have R:∀e∈g.after,Region.binds md e=true->e.on≠i:=fun e he F heq=>by
    have h1:=E e he F;have h0:=(mem_ready.1 l).1;rw[heq] at h1
    rcases Nat.lt_or_ge i listed.size with m|m
    .simp[m] at h0 h1;rw[h0] at h1;cases h1
    .simp[Array.getElem?_eq_none m] at h1
   have p:=s j g q hji y R;obtain⟨_,_,h3⟩:=Oper.apart_spec p;obtain⟨_,r,_⟩:=Oper.apart_spec p;have A:∀cs b,c.op≠ .select cs b:=fun cs b=>z i c cs b hi
   have keep:∀(a:Act) (u:Value),CH P ops C c v a->CH P ops C c v (a.put g.dst u):=fun a u h w hw=>by
    obtain⟨v1,hv1,he⟩:=h w hw;refine⟨v1,hv1.of_same (execOp_put c A a g.dst u h3) (wanted_put c a g.dst u h3),?_⟩;rw[<-Act.put_comm a v1 u r,<-Act.put_comm a v u r,he]
   have U:∀(a:Act) (d:Deferred),CH P ops C c v a->CH P ops C c v {a with defers:=d::a.defers}:=fun a d h w hw=>by
    obtain⟨v1,hv1,he⟩:=h w hw;have I:execOp ({a with defers:=d::a.defers}:Act).eval c=execOp a.eval c:=rfl;refine⟨v1,hv1.of_same I rfl,?_⟩;rw[<-Act.put_defers,<-Act.put_defers,he]
   have h2:=Tv q p A (fun cs b=>z j g cs b q) keep U hy h1;have J:∀k ok,ops[k]? =some ok->k≠i->(listed.setIfInBounds j true).getD k true=false->
    (∀e∈ok.after,Region.binds md e=true->e.on≠i)->c.apart ops ok=true:=fun k ok L M B O=>by
    refine s k ok L M ?_ O;by_cases t:j=k
    .subst t;exact y
    .rw[getD_set_ne true t] at B;exact B
   refine SP (fun D w' h3=>⟨h3.2.1,T (listed.setIfInBounds j true) D w' (inv.set hj x) J (ready_mono l (Ne.symm hji)) (h3.2.1 x) h3.1 ?_⟩) h2;rw[Array.setIfInBounds_comm _ _ hji];exact h3.2.2
theorem IK{n k f:Nat}{Q:Act->World->Prop}{listed:Array Bool}{a:Act}{w:World}(c:Region.ready md ops listed=[k])(h:uR P ops k (fun d w'=>(k<n->C w')/\oU P md ops C n Q f (listed.setIfInBounds k true) d w') a w):oU P md ops C n Q (f+1) listed a w:=
 ⟨fun h0=>(by rw[c] at h0;cases h0),fun i b=>(by rw[c,List.mem_singleton] at b;subst b;exact h)⟩
def rd(P:Program)(ops:Array Oper)(o:Oper)(a:Act)(w:World)(K:Act->Prop):Prop:=if Region.wanted o (yielded ops a.tmps)=true then o.still P a w K else K (a.put o.dst undef)
def mv(P:Program)(ops:Array Oper)(o:Oper)(a:Act)(w:World)(K:Act->World->Prop):Prop:=if Region.wanted o (yielded ops a.tmps)=true then o.wp P a w K Rk else K (a.put o.dst undef) w
def cI(P:Program)(ops:Array Oper)(C:World->Prop)(n:Nat)(Q:Act->World->Prop):List (Nat×Bool)->Act->World->Prop
 | [],a,w=>Q a w
 |(k,false)::r,a,w=>match ops[k]? with
  |none=>False
  |some o=>rd P ops o a w (fun b=>(∀w1,C w1->rd P ops o a w1 (fun c=>c=b))/\cI P ops C n Q r b w)
 |(k,true)::r,a,w=>match ops[k]? with
  |none=>False
  |some o=>mv P ops o a w (fun b w'=>(k<n->C w')/\cI P ops C n Q r b w')
def EM(md:Region.Mode)(ops:Array Oper):List (Nat×Bool)->Array Bool->Bool
 | [],listed=>(Region.ready md ops listed).isEmpty
 |(k,fl)::r,listed=>fl&&(Region.ready md ops listed==[k])&&EM md ops r (listed.setIfInBounds k true)
def EN(md:Region.Mode)(ops:Array Oper)(n:Nat)(T:List (Nat×Bool)):List (Nat×Bool)->Array Bool->Bool
 | [],listed=>EM md ops T listed
 |(k,fl)::r,listed=>(if fl=true then Region.ready md ops listed==[k] else (Region.ready md ops listed).contains k&&Region.free md ops listed k)&&decide (k<n)&&EN md ops n T r (listed.setIfInBounds k true)
def Rl(md:Region.Mode)(ops:Array Oper)(n:Nat)(H T:List (Nat×Bool)):Bool:=
 Region.noSelect ops&&decide (n<ops.size)&&Region.sinkB md ops n&&Region.chainB md ops n&&decide (H.length+T.length=ops.size)&&EN md ops n T H (Array.replicate ops.size false)
theorem EO{k:Nat}{o:Oper}(h:ops[k]? =some o){a:Act}{w:World}{K:Act->Prop}:stOp P ops w k K a↔rd P ops o a w K:=by unfold stOp rd;simp only[h]
theorem CI{n:Nat}{Q:Act->World->Prop}:∀(T:List (Nat×Bool)) (listed:Array Bool) (a:Act) (w:World),EM md ops T listed=true->cI P ops C n Q T a w->oU P md ops C n Q T.length listed a w
 | [],listed,a,w,hB,h=>⟨by simpa [EM] using hB,h⟩
 |(k,false)::r,listed,a,w,hB,h=>by simp[EM] at hB
 |(k,true)::r,listed,a,w,hB,h=>by
  simp only[EM,Bool.and_eq_true,bQ,true_and] at hB;refine IK hB.1 ?_;unfold cI at h;unfold uR
  cases c:ops[k]? with
  |none=>simp only[c] at h
  |some o=>
   simp only[c] at h ⊢;unfold mv at h;split
   .rename_i hw;rw[iP hw] at h;exact sS (fun d w' b=>⟨b.1,CI r _ d w' hB.2 b.2⟩) h
   .rename_i hw;rw[iN hw] at h;exact⟨h.1,CI r _ _ w hB.2 h.2⟩
theorem tW{n:Nat}{Q:Act->World->Prop}{T:List (Nat×Bool)}(l:Region.noSelect ops=true)(j:Region.sinkB md ops n=true)(e:Region.chainB md ops n=true)(f:n<ops.size):∀(H:List (Nat×Bool)) (listed:Array Bool) (a:Act) (w:World),HeadInv md ops n listed->C w->EN md ops n T H listed=true->cI P ops C n Q (H++T) a w->oU P md ops C n Q (H.length+T.length) listed a w
 | [],listed,a,w,inv,hw,hB,h=>by
   rw[List.length_nil,Nat.zero_add];exact CI T listed a w hB h
 |(k,true)::r,listed,a,w,inv,hw,hB,h=>by
  simp only[EN,if_true,Bool.and_eq_true,bQ,decide_eq_true_eq] at hB;obtain⟨⟨g,c⟩,d⟩:=hB;rw[List.length_cons,show r.length+1+T.length=(r.length+T.length)+1 by omega];refine IK g ?_;have s:=inv.set (i:=k) (by rw[g];exact List.mem_singleton.2 rfl) c;rw[List.cons_append] at h;unfold cI at h;unfold uR
  cases b:ops[k]? with
  |none=>simp only[b] at h
  |some o=>
   simp only[b] at h ⊢;unfold mv at h;split
   .rename_i p;rw[iP p] at h;exact sS (fun t w' m=>⟨m.1,tW l j e f r _ t w' s (m.1 c) d m.2⟩) h
   .rename_i p;rw[iN p] at h;exact⟨h.1,tW l j e f r _ _ w s (h.1 c) d h.2⟩
 |(k,false)::r,listed,a,w,inv,hw,hB,h=>by
  simp only[EN,Bool.false_eq_true,if_false,Bool.and_eq_true,decide_eq_true_eq] at hB;obtain⟨⟨⟨g,x⟩,c⟩,d⟩:=hB;have q:k∈Region.ready md ops listed:=by simpa using g
  rw[List.length_cons,show r.length+1+T.length=(r.length+T.length)+1 by omega];rw[List.cons_append] at h;unfold cI at h
  cases b:ops[k]? with
  |none=>simp only[b] at h
  |some o=>
   simp only[b] at h;obtain⟨v,z,h1,h2⟩:=yieldsAt_of_stOp b ((EO b).2 h);exact JS b (Region.noSelect_spec l) j e f c _ listed a w inv (Region.free_spec b x) q hw
    (fun w1 y=>yieldsAt_of_stOp b ((EO b).2 (h1 w1 y)))
    (tW l j e f r _ _ w (inv.set q c) hw d h2)
theorem cC{id:Nat}{a:Act}{w:World}{l:List Oper}(n:Nat)(H T:List (Nat×Bool))(C:World->Prop)(hm:P.follows .mixedOrders=true)(c:Rl .any l.toArray n H T=true)(hC:C w.drew)
 (h:cI P l.toArray C n (fun a w=>Q .normal a w) (H++T) a w.drew):(Code.region id l.toArray true).wp P Q a w:=by
 simp only[Rl,Bool.and_eq_true,decide_eq_true_eq] at c;obtain⟨⟨⟨⟨⟨i,f⟩,g⟩,e⟩,b⟩,d⟩:=c;have m:HeadInv .any l.toArray n (Array.replicate l.toArray.size false):=
  ⟨qs,fun j o _ b=>(by rw[getD_replicate_false] at b;cases b),fun t _ k=>getD_in (by simpa using k) (getD_replicate_false _ _)⟩
 have h1:=tW (md:= .any) i g e f H _ a w.drew m hC d h;rw[b] at h1;exact wp_region_any hm (xR _ _ _ _ h1)
theorem dG{n k:Nat}{Q:Act->World->Prop}{r:List (Nat×Bool)}{a:Act}{w:World}{o:Oper}(d:ops[k]? =some o)(h:∀K:Act->Prop,(∀b,(∀w1,C w1->rd P ops o a w1 (fun c=>c=b))->cI P ops C n Q r b w->K b)->rd P ops o a w K):cI P ops C n Q ((k,false)::r) a w:=by
 unfold cI;simp only[d];exact h _ (fun b h1 h2=>⟨h1,h2⟩)
theorem bJ{n k:Nat}{Q:Act->World->Prop}{r:List (Nat×Bool)}{a:Act}{w:World}{o:Oper}(c:ops[k]? =some o)(h:∀K:Act->World->Prop,(∀b w',(k<n->C w')->cI P ops C n Q r b w'->K b w')->mv P ops o a w K):cI P ops C n Q ((k,true)::r) a w:=by
 unfold cI;simp only[c];exact h _ (fun b w' h1 h2=>⟨h1,h2⟩)
end
end Go.Proofs.YtgoanbpcdhmfkaaGreatDoor
