/- Part of DeltaBack. -/
import Derived.Test.YtgfgoaeaicefcaaGreatDoorQHd
import Derived.Test.YtgfgoaeaicefcaaGreatDoorProg
import Derived.WalkSpells
import Derived.WalkLawsBesides
import Derived.Lib.Hide
import Derived.Deep.DeepCutAuto
import Derived.BigQuiet
import Derived.Lib.Strings
set_option maxHeartbeats 16000000
set_option maxRecDepth 100000
set_option linter.all false
namespace Go.Proofs.YtgfgoaeaicefcaaGreatDoor
open Go.RowKit Tryz
variable {w w' a b:Wq}{B k size B' len cap:Nat}{v:Value}{c:List Value}
theorem Hi {p:Prop}(h:p):Hid p:=Lib.hid h
theorem wS (i:Nat)(h:i<9223372036854775807):IntKind.i64.wrap ((i:Int)+1)=(i:Int)+1:=bu _ (by omega)
theorem oc (l:List Value)(h:(l.all λu=>u.oneCell')=true):∀u∈l,u.oneCell'=true:=List.all_eq_true.1 h
theorem en {a b:Bool}(h:a=b):Ending.returned (.bool a)=.returned (.bool b):=by rw[h]
theorem jL {k:IntKind}{a b:Int}(h:a=b):Ending.returned (.int k a)=.returned (.int k b):=by rw[h]
theorem gJ {a b:Bool}(h:a=b):Value.bool a=.bool b:=by rw[h]
theorem jC {d:Func}{t u v x:Tmp}(h:d.results=#[.tmp t,.tmp u,.tmp v,.tmp x])(tmps:Array Value)(P:Program)(w:Wq):(results d tmps).run P w=.ok (.tuple #[tmps.getD t undef,tmps.getD u undef,tmps.getD v undef,tmps.getD x undef]) w:=by simp[results,h]
def Qt (w w':Wq):Prop:=∃n,w'=w.drewN n
theorem Qt.refl (w:Wq):Qt w w:=⟨0,by simp[World.drewN]⟩
theorem Qt.drewN (h:Qt w w')(n:Nat):Qt w (w'.drewN n):=by obtain⟨k,rfl⟩:=h;exact⟨k+n,by simp[World.drewN_drewN]⟩
theorem Qt.self (w:Wq)(n:Nat):Qt w (w.drewN n):=⟨n,rfl⟩
theorem Qt.t {c:Wq}(h:Qt a b)(k:Qt b c):Qt a c:=by obtain⟨n,rfl⟩:=h;obtain⟨m,rfl⟩:=k;exact⟨n+m,by simp[World.drewN_drewN]⟩
theorem Qt.o (h:Qt a b):∃n,b=a.drewN n:=h
theorem ar (h:Below B a w)(n:Nat):Below B a (w.drewN n):=⟨h.os,h.tape,h.output,h.size,h.block⟩
theorem Qt.below (h:Qt a b)(B:Nat):Below B a b:=by obtain⟨n,rfl⟩:=h;exact ar Jz n
theorem GS {W d:Wq}(e:Below B W d):(∀b o,b<B->d.cell? ⟨b,o,none⟩=W.cell? ⟨b,o,none⟩)/\(∀b o,b<B->d.frozen? ⟨b,o,none⟩=W.frozen? ⟨b,o,none⟩):=⟨λb o h=>e.cell (p:=⟨b,o,none⟩) h,λb o h=>e.frozen (p:=⟨b,o,none⟩) h⟩
def Sl (w:Wq)(B size:Nat)(v:Value)(n:Nat)(xs:List Value):Prop:=∃A cap,v=.slice A n cap/\n<=cap/\(cap<=9223372036854775807/\n<=140737488355328)/\xs.length=n*size/\(0<n->∃b off,A=some ⟨b,off,none⟩/\b<B/\∀j u,xs[j]?=some u->w.cell? ⟨b,off+j,none⟩=some u)
theorem Sl.keep {n:Nat}{xs:List Value}(h:Sl w B size v n xs)(hB:B<=B')(i:∀b o,b<B->w'.cell? ⟨b,o,none⟩=w.cell? ⟨b,o,none⟩):Sl w' B' size v n xs:=by obtain⟨A,cap,q,h1,h2,h3,d⟩:=h;refine⟨A,cap,q,h1,h2,h3,λm=>?_⟩;obtain⟨b,off,e,f,g⟩:=d m;exact⟨b,off,e,by omega,λj u p=>(i _ _ f).t (g j u p)⟩
theorem Sl.below {n:Nat}{xs:List Value}(h:Sl w B size v n xs)(d:Below B' w w')(hB:B<=B'):Sl w' B' size v n xs:=h.keep hB λb o jk=>(GS d).1 b o (by omega)
def aX {α:Type}(size:Nat)(R:Wq->Nat->List Value->α->Prop)(w:Wq)(B:Nat)(v:Value)(l:List α):Prop:=∃d:List (List Value),d.length=l.length/\(∀c∈d,c.length=size)/\Sl w B size v l.length d.flatten/\∀(i:Nat)(c:List Value)(x:α),d[i]?=some c->l[i]?=some x->R w B c x
theorem iP (size:Nat):∀(e:List (List Value)),(∀c∈e,c.length=size)->∀(i j:Nat)(c:List Value)(u:Value),e[i]?=some c->c[j]?=some u->e.flatten[i*size+j]?=some u|[],_,i,j,c,u,h,_=>by simp at h|d::e,hs,0,j,c,u,h,hu=>by simp only[aN,j8]at h;subst h;have:j<d.length:=(List.getElem?_eq_some_iff.1 hu).1;rw[dh,Dn,aY,ee this];exact hu|d::e,hs,i+1,j,c,u,h,hu=>by simp only[aO]at h;have f:d.length=size:=hs d (by simp);have jm:=iP size e (λc g=>hs c (by simp[g])) i j c u h hu;rw[dh,dy (by rw[f,jU];omega),f];rw[show(i+1)*size+j-size=i*size+j by rw[jU];omega];exact jm
section
variable {α : Type} {size:Nat} {R:Wq→Nat→List Value→α→Prop} {w w':Wq} {B B':Nat} {v:Value} {l:List α}
theorem aX.form (h:aX size R w B v l):∃A cap,v=.slice A l.length cap/\l.length<=cap/\(cap<=9223372036854775807/\l.length<=140737488355328):=by obtain⟨e,_,_,⟨A,cap,d,h1,h2,_⟩,_⟩:=h;exact⟨A,cap,d,h1,h2⟩
theorem aX.at_ (h:aX size R w B v l)(m:k<l.length):∃b off cap c x,v=.slice (some ⟨b,off,none⟩) l.length cap/\b<B/\l[k]?=some x/\R w B c x/\c.length=size/\∀j u,c[j]?=some u->w.cell? ⟨b,off+k*size+j,none⟩=some u:=by obtain⟨d,p,hs,⟨A,cap,o,h1,h2,h3,e⟩,f⟩:=h;obtain⟨b,off,rfl,g,i⟩:=e (by omega);have jy:d[k]?=some d[k]:=aF (by omega);have jn:l[k]?=some l[k]:=aF m;refine⟨b,off,cap,d[k],l[k],o,g,jn,f k _ _ jy jn,hs _ (GW _),λj u n=>?_⟩;rw[eM];exact i _ u (iP size d hs k j _ u jy n)
theorem aX.keep (h:aX size R w B v l)(hB:B<=B')(g:∀b o,b<B->w'.cell? ⟨b,o,none⟩=w.cell? ⟨b,o,none⟩)(e:∀c x,R w B c x->R w' B' c x):aX size R w' B' v l:=by obtain⟨d,j,hs,f,m⟩:=h;exact⟨d,j,hs,f.keep hB g,λi c x h1 h2=>e _ _ (m i c x h1 h2)⟩
end
def FH (_:Wq)(_:Nat)(c:List Value)(x:Wz):Prop:=c=[.string x]/\x.size<=140737488355328
def dk:=aX 1 FH
theorem dk.keep {l:List Wz}(h:dk w B v l)(hB:B<=B')(d:∀b o,b<B->w'.cell? ⟨b,o,none⟩=w.cell? ⟨b,o,none⟩):dk w' B' v l:=aX.keep h hB d λ_ _ h=>h
theorem dk.at_ {l:List Wz}(h:dk w B v l)(g:k<l.length):∃b off cap x,v=.slice (some ⟨b,off,none⟩) l.length cap/\b<B/\l[k]?=some x/\x.size<=140737488355328/\w.cell? ⟨b,off+k,none⟩=some (.string x):=by obtain⟨b,off,cap,c,x,i,d,j,⟨e,hs⟩,_,f⟩:=aX.at_ h g;subst e;exact⟨b,off,cap,x,i,d,j,hs,by simpa using f 0 _ rfl⟩
theorem fP {α:Type}{l:List α}{x:α}(h:l[k]?=some x):l.drop k=x::l.drop (k+1):=by obtain⟨d,rfl⟩:=List.getElem?_eq_some_iff.1 h;exact Nf d
theorem fB {α:Type}{l:List α}(h:¬k<l.length):l.drop k=[]:=nC (by omega)
abbrev bM:=List UInt8
def bs (s:Wz):bM:=s.data.toList
theorem dM (s:Wz):(bs s).length=s.size:=rfl
theorem RA (s:Wz)(k:Nat)(h:k<s.size):(bs s)[k]?=some s[k]:=by show s.data.toList[k]?=_;rw[aF (by simpa using h)];rfl
theorem jh (s:Wz)(k:Nat)(h:k<s.size):(bs s).drop k=s[k]::(bs s).drop (k+1):=fP (RA s k h)
theorem iL (s:Wz)(k:Nat)(h:¬k<s.size):(bs s).drop k=[]:=fB (by simpa[dM]using h)
def ie (n:Nat):Bool:=decide (n=95\/(97<=n/\n<=122)\/(65<=n/\n<=90))
def gX (n:Nat):Bool:=decide (48<=n/\n<=57)
def jN (c:UInt8):Bool:=ie c.toNat
def fC (c:UInt8):Bool:=gX c.toNat
def iG (c:UInt8):Bool:=jN c||fC c
def nh (n:Nat):Int:=if n=32\/n=9\/n=13 then 2 else if n=10 then 3 else if n=35 then 4 else if n=37 then 7 else if n=34 then 8 else if n=95\/(97<=n/\n<=122)\/(65<=n/\n<=90)then 5 else if 48<=n/\n<=57 then 6 else 0
def dA:bM->Int|[]=>1|c::_=>nh c.toNat
theorem tX (n:Nat):(nh n=5)↔ie n=true:=by unfold nh ie;simp only[bC];(repeat' split)<;>omega
theorem wC (n:Nat):(nh n=6)↔gX n=true:=by unfold nh gX;simp only[bC];(repeat' split)<;>omega
def pL (l:bM):Bool:=dA l==5||dA l==6
theorem xF (c:UInt8)(r:bM):pL (c::r)=iG c:=by rw[eD];simp only[pL,dA,iG,jN,fC,fH,dj,tX,wC]
def ck:bM->Nat|[]=>0|c::r=>if iG c then ck r+1 else 0
theorem oh:∀l:bM,ck l<=l.length|[]=>al _|c::r=>by have:=oh r;unfold ck;split<;>simp<;>omega
def gA:bM->Nat|[]=>0|c::r=>if iG c||(c.toNat==46&&dA r==6)then gA r+1 else 0
def nm:Bool->bM->Bool|_,[]=>true|f,c::r=>if !jN c&&(f||!fC c)then false else nm false r
def cZ (l:bM):Bool:=decide (1<=l.length)&&(decide (l.length<=24)&&nm true l)
def i7 (c:UInt8):Bool:=c.toNat==48||c.toNat==49||c.toNat==120
def yG (l:bM):Bool:=decide (1<=l.length)&&(decide (l.length<=256)&&l.all i7)
theorem lJ (s:Wz)(a b:Nat):bs (s.extract a b)=((bs s).drop a).take (b-a):=Lib.extract_data s a b
theorem GP (s:Wz)(k:Nat):bs (s.extract 0 k)=(bs s).take k:=by rw[lJ];rfl
theorem td (s:Wz)(k:Nat):bs (s.extract k s.size)=(bs s).drop k:=by rw[lJ,ah (by simp[dM])]
theorem jD (s:Wz)(h:s.size<1\/24<s.size):cZ (bs s)=false:=by
 unfold cZ;rw[dM];rcases h with h|h
 .rw[aM (by omega)];rfl
 .rw[aM (show¬s.size<=24 by omega)];simp
theorem uc (s:Wz)(h1:¬s.size<1)(h2:¬24<s.size):cZ (bs s)=nm true (bs s):=by unfold cZ;rw[dM,aV (show 1<=s.size by omega),aV (show s.size<=24 by omega)];rfl
theorem yF (s:Wz)(h:s.size<1\/256<s.size):yG (bs s)=false:=by
 unfold yG;rw[dM];rcases h with h|h
 .rw[aM (by omega)];rfl
 .rw[aM (show¬s.size<=256 by omega)];simp
theorem Hc (s:Wz)(h1:¬s.size<1)(h2:¬256<s.size):yG (bs s)=(bs s).all i7:=by unfold yG;rw[dM,aV (show 1<=s.size by omega),aV (show s.size<=256 by omega)];rfl
theorem jw (s:Wz)(h:s.size≠0):s.toList.isEmpty=false:=by
 rw[ab,List.isEmpty_eq_false_iff];intro e;apply h;have:s.data.toList.length=0:=by rw[e];rfl
 exact this
theorem qP (s:Wz)(h:s.size=0):s.toList.isEmpty=true:=by rw[ab,List.isEmpty_iff];exact List.length_eq_zero_iff.1 h
def Lt:List (List UInt8):=[[110,101,116,119,111,114,107],[104,101,97,100,101,114],[114,111,117,116,105,110,103],[115,108,105,109],[98,111,120],[105,110],[111,117,116],[103,117,97,114,100],[112,101,114,109,105,116],[100,101,110,121],[114,117,108,101],[102,114,111,109],[109,97,116,99,104],[115,101,116],[116,111],[100,114,111,112],[111,119,110],[114,111,117,116,101],[108,105,110,107],[99,111,115,116],[115,108,105,99,101],[119,104,101,114,101],[97,110,121],[110,111,110,101],[97,116],[110,111]]
def lD (s:Wz):Bool:=Lt.any λr=>s.toList==r
theorem sx (s:Wz)(w:Wq):Calls prog 95 #[.string s] w λe w'=>e=.returned (.bool (lD s))/\w=w':=by
 go_enter func95,ntmps95;go_wp2;all_goals go_ret
 all_goals(refine⟨en ?_,rfl⟩;first|(simp only[lD,Lt,lx,List.any_nil, *,Bool.or_true,Dy,Bool.or_false];done)|(simp only[*,jW]at*;done))
theorem O8 (s:Wz)(w:Wq)(hs:s.size<=9223372036854775807):Calls prog 176 #[.string s] w λe w'=>e=.returned (.bool (cZ (bs s)))/\w=w':=by
 by_cases h1:s.size=0
 .have H:=Hi (jD s (by omega));have m:=qP s h1;clear h1;go_enter func176,ntmps176;go_wp2;go_ret;exact⟨en H.o.symm,rfl⟩
 have m:=jw s h1;by_cases h2:24<s.size
 .have H:=Hi (jD s (by omega));have jl:(s.size:Int)>24:=by omega
  clear h2;go_enter func176,ntmps176;go_wp2;go_ret;exact⟨en H.o.symm,rfl⟩
 have H:=Hi (uc s (by omega) h2);go_enter func176,ntmps176;go_wp2;go_loopw [3,4,5,15] (λ_ _ _ i wr=>wr=w/\∃k:Nat,k<=s.size/\i=.int .i64 k/\Hid (cZ (bs s)=nm (k==0) ((bs s).drop k)))(λ_ _ _ i _=>s.size-(intOf i).toNat);case atStart=>exact⟨rfl,0,aK _,rfl,H⟩
 case round=>
  obtain⟨rfl,k,o,rfl,g⟩:=hrel;by_cases jk:k<s.size
  .have f:Hid (cZ (bs s)=if !ie s[k].toNat&&((k==0)||!gX s[k].toNat)then false else nm false ((bs s).drop (k+1))):=by refine Hi ?_;have:=g.o;rw[jh s k jk]at this;exact this
   clear H g;go_upto_region 7 with fail;go_cut[4,5] (λu v n=>n=wr/\u=.int .u8 s[k].toNat/\v=.bool (ie s[k].toNat));case first=>
    go_wp2;all_goals(go_meet)
    all_goals(refine⟨rfl,by first|rfl|(simp;omega),gJ ?_⟩;rw[eD];simp[ie];omega)
   case rest=>
    obtain⟨rfl,rfl,rfl⟩:=hcut;generalize j:ie s[k].toNat=L at*;clear j;by_cases h0:k=0
    .have d:Hid (cZ (bs s)=if !L then false else nm false ((bs s).drop 1)):=Hi (by have:=f.o;subst h0;simpa using this);clear f;cases L
     .go_wp2;go_ret;exact⟨en d.o.symm,rfl⟩
     .go_wp2;go_roundw;case rel=>exact⟨by trivial,1,by omega,by first|go_num|(simp;omega),d⟩
      case measure=>simp[intOf];omega
    .have r:((k:Int)==0)=false:=by simp;omega
     have d:Hid (cZ (bs s)=if !L&&!gX s[k].toNat then false else nm false ((bs s).drop (k+1))):=Hi (by have:=f.o;rw[show(k==0)=false by simp[h0]]at this;simpa using this);clear f;cases L
     .by_cases hd:48<=s[k].toNat/\s[k].toNat<=57
      .have jf:Hid (cZ (bs s)=nm false ((bs s).drop (k+1))):=Hi (by have:=d.o;rw[show gX s[k].toNat=true by simp[gX,hd]]at this;simpa using this);obtain⟨p,q⟩:=hd;go_wp2;go_roundw;case rel=>exact⟨by trivial,k+1,by omega,by go_num,jf⟩
       case measure=>simp[intOf];omega
      .have jf:Hid (cZ (bs s)=false):=Hi (by have:=d.o;rw[show gX s[k].toNat=false by simp[gX];omega]at this;simpa using this);go_wp2;all_goals first|(go_ret;exact⟨en jf.o.symm,rfl⟩)|(exfalso;apply hd;omega)|(exfalso;simp at*;omega)
     .have jf:Hid (cZ (bs s)=nm false ((bs s).drop (k+1))):=Hi (by simpa using d.o);go_wp2;go_roundw;case rel=>exact⟨by trivial,k+1,by omega,by go_num,jf⟩
      case measure=>simp[intOf];omega
  .have h:Hid (cZ (bs s)=true):=Hi (by have:=g.o;rw[iL s k jk]at this;exact this);go_wp2;go_ret;exact⟨en h.o.symm,rfl⟩
theorem aX.addr {α:Type}{R:Wq->Nat->List Value->α->Prop}{A:Option Addr}{l:List α}(h:aX size R w B (.slice A len cap) l)(d:0<l.length):∃b off,A=some ⟨b,off,none⟩:=by obtain⟨b,off,_,_,_,e,_⟩:=aX.at_ h (k:=0) d;injection e with hA _ _;exact⟨b,off,hA⟩
theorem aX.el {α:Type}{R:Wq->Nat->List Value->α->Prop}{b off:Nat}{l:List α}(h:aX size R w B (.slice (some ⟨b,off,none⟩) len cap) l)(f:k<l.length):b<B/\∃c x,l[k]?=some x/\R w B c x/\∀j u,c[j]?=some u->w.cell? ⟨b,off+k*size+j,none⟩=some u:=by obtain⟨m,n,_,c,x,g,d,i,hr,_,e⟩:=aX.at_ h f;injection g with hA _ _;injection hA with hA;injection hA with h1 h2 _;subst h1 h2;exact⟨d,c,x,i,hr,e⟩
theorem fx {b off:Nat}{l:List Wz}(h:dk w B (.slice (some ⟨b,off,none⟩) len cap) l)(g:k<l.length):b<B/\∃x,l[k]?=some x/\x.size<=140737488355328/\w.cell? ⟨b,off+k,none⟩=some (.string x):=by obtain⟨d,c,x,i,⟨e,hs⟩,f⟩:=aX.el h g;subst e;exact⟨d,x,i,hs,by simpa using f 0 _ rfl⟩
structure dO where
 name:Wz
 bits:Int
structure eF where
 field:Wz
 op:Int
 form:Int
 lo:Int
 hi:Int
 len:Int
 pat:Wz
structure de where
 kind:Int
 test:eF
structure iV where
 field:Wz
 value:Int
structure gP where
 port:Wz
 permit:Bool
 mat:List de
structure db where
 prio:Int
 frm:List Wz
 mat:List de
 sets:List iV
 dst:List Wz
structure dc where
 value:Int
 len:Int
 dst:Wz
structure ay where
 name:Wz
 ins:List Wz
 outs:List Wz
 guards:List gP
 rules:List db
 owns:List dc
 routes:List dc
structure eQ where
 frm:Wz
 dst:Wz
 cost:Int
structure dE where
 name:Wz
 ports:List Wz
 whr:List de
structure bE where
 title:Wz
 fields:List dO
 routing:Wz
 slim:Bool
 boxes:List ay
 links:List eQ
 slices:List dE
def Sm (s:Wz):Prop:=s.size<=140737488355328
abbrev I6 (i:Int):Value:=.int .i64 i
def fM (t:eF):List Value:=[.string t.field,I6 t.op,I6 t.form,I6 t.lo,I6 t.hi,I6 t.len,.string t.pat]
def yj (_:Wq)(_:Nat)(c:List Value)(x:dO):Prop:=c=[.string x.name,I6 x.bits]/\Sm x.name
def yg (_:Wq)(_:Nat)(c:List Value)(x:de):Prop:=c=I6 x.kind::fM x.test/\Sm x.test.field/\Sm x.test.pat
def K6 (_:Wq)(_:Nat)(c:List Value)(x:iV):Prop:=c=[.string x.field,I6 x.value]/\Sm x.field
def fQ (_:Wq)(_:Nat)(c:List Value)(x:eQ):Prop:=c=[.string x.frm,.string x.dst,I6 x.cost]/\Sm x.frm/\Sm x.dst
def fw (_:Wq)(_:Nat)(c:List Value)(x:dc):Prop:=c=[I6 x.value,I6 x.len,.string x.dst]/\Sm x.dst
abbrev eX:=aX 2 yj
abbrev iq:=aX 8 yg
abbrev AT:=aX 2 K6
abbrev oa:=aX 3 fw
def iu (w:Wq)(B:Nat)(c:List Value)(x:gP):Prop:=∃d,c=[.string x.port,.bool x.permit,d]/\Sm x.port/\iq w B d x.mat
def gn (w:Wq)(B:Nat)(c:List Value)(x:db):Prop:=∃d e vs f,c=[I6 x.prio,d,e,vs,f]/\dk w B d x.frm/\iq w B e x.mat/\AT w B vs x.sets/\dk w B f x.dst
def da (w:Wq)(B:Nat)(c:List Value)(x:dE):Prop:=∃e d,c=[.string x.name,e,d]/\Sm x.name/\dk w B e x.ports/\iq w B d x.whr
def jB (w:Wq)(B:Nat)(c:List Value)(x:ay):Prop:=∃f g e h d vb,c=[.string x.name,f,g,e,h,d,vb]/\Sm x.name/\dk w B f x.ins/\dk w B g x.outs/\aX 3 iu w B e x.guards/\aX 5 gn w B h x.rules/\oa w B d x.owns/\oa w B vb x.routes
structure fE (w:Wq)(B:Nat)(c:bE)(vf vb vl vs:Value):Prop where
 f:eX w B vf c.fields
 b:aX 7 jB w B vb c.boxes
 l:aX 3 fQ w B vl c.links
 s:aX 3 da w B vs c.slices
 ht:Sm c.title
 hr:Sm c.routing
def eO (c:bE)(d vb vl vs:Value):Array Value:=#[.string c.title,d,.string c.routing,.bool c.slim,vb,vl,vs]
section
variable {w w':Wq} {B B':Nat}
theorem dZ {α:Type}{P:List Value->α->Prop}{l:List α}(h:aX size (λ_ _=>P) w B v l)(hB:B<=B')(d:∀b o,b<B->w'.cell? ⟨b,o,none⟩=w.cell? ⟨b,o,none⟩):aX size (λ_ _=>P) w' B' v l:=h.keep hB d λ_ _ h=>h
theorem iu.keep {x:gP}(h:iu w B c x)(hB:B<=B')(d:∀b o,b<B->w'.cell? ⟨b,o,none⟩=w.cell? ⟨b,o,none⟩):iu w' B' c x:=by obtain⟨v,h1,h2,h3⟩:=h;exact⟨v,h1,h2,dZ h3 hB d⟩
theorem gn.keep {x:db}(h:gn w B c x)(hB:B<=B')(f:∀b o,b<B->w'.cell? ⟨b,o,none⟩=w.cell? ⟨b,o,none⟩):gn w' B' c x:=by obtain⟨a,b,d,e,h1,h2,h3,g,i⟩:=h;exact⟨a,b,d,e,h1,h2.keep hB f,dZ h3 hB f,dZ g hB f,i.keep hB f⟩
theorem da.keep {x:dE}(h:da w B c x)(hB:B<=B')(d:∀b o,b<B->w'.cell? ⟨b,o,none⟩=w.cell? ⟨b,o,none⟩):da w' B' c x:=by obtain⟨a,b,h1,h2,h3,e⟩:=h;exact⟨a,b,h1,h2,h3.keep hB d,dZ e hB d⟩
theorem jB.keep {x:ay}(h:jB w B c x)(hB:B<=B')(i:∀b o,b<B->w'.cell? ⟨b,o,none⟩=w.cell? ⟨b,o,none⟩):jB w' B' c x:=by obtain⟨a,b,d,e,f,g,h1,h2,h3,j,m,n,p,q⟩:=h;exact⟨a,b,d,e,f,g,h1,h2,h3.keep hB i,j.keep hB i,m.keep hB i λ_ _ h=>h.keep hB i,n.keep hB i λ_ _ h=>h.keep hB i,dZ p hB i,dZ q hB i⟩
theorem fE.keep {c:bE}{e vb vl vs:Value}(h:fE w B c e vb vl vs)(hB:B<=B')(d:∀b o,b<B->w'.cell? ⟨b,o,none⟩=w.cell? ⟨b,o,none⟩):fE w' B' c e vb vl vs:=⟨dZ h.f hB d,h.b.keep hB d λ_ _ h=>h.keep hB d,dZ h.l hB d,h.s.keep hB d λ_ _ h=>h.keep hB d,h.ht,h.hr⟩
theorem av (d:Below B' w w')(hB:B<=B'):∀b o,b<B->w'.cell? ⟨b,o,none⟩=w.cell? ⟨b,o,none⟩:=λb o h=>(GS d).1 b o (by omega)
theorem dk.below {l:List Wz}(h:dk w B v l)(d:Below B' w w')(hB:B<=B'):dk w' B' v l:=h.keep hB (av d hB)
theorem iq.below {l:List de}(h:iq w B v l)(d:Below B' w w')(hB:B<=B'):iq w' B' v l:=dZ h hB (av d hB)
theorem eX.below {l:List dO}(h:eX w B v l)(d:Below B' w w')(hB:B<=B'):eX w' B' v l:=dZ h hB (av d hB)
theorem fE.below {c:bE}{d vb vl vs:Value}(h:fE w B c d vb vl vs)(e:Below B' w w')(hB:B<=B'):fE w' B' c d vb vl vs:=h.keep hB (av e hB)
end
theorem lm {d:Wq}{o:Obj}(h:Below (w.alloc o).heap.size (w.alloc o) d):d.heap[w.heap.size]?=some o/\JJ w d:=⟨(h.block _ (by simp)).t (aG w o),(Jz.alloc Jq o).t (h.mono (by simp))⟩
theorem lK (a b:Wz):(a.toList==b.toList)=decide (a=b):=by
 rw[eD,dj,bC,ab,ab];constructor
 .intro h;cases a;cases b;simp at h;simp[h]
 .rintro rfl;rfl
def jH (d:Bool)(w:Wq)(e:Ending)(w':Wq):Prop:=(∃k:Int,e=.returned (.int .i64 k)/\(k=0↔d=true))/\JJ w w'
theorem eB {d:Bool}{k:Int}(h:d=false)(f:k≠0)(e:JJ w w'):jH d w (.returned (.int .i64 k)) w':=⟨⟨k,rfl,by rw[h];simp[f]⟩,e⟩
theorem tV {d:Bool}(h:d=true)(e:JJ w w'):jH d w (.returned (.int .i64 0)) w':=⟨⟨0,rfl,by rw[h];simp⟩,e⟩
theorem pJ {e:Ending}(h:jH false w e w'):∃k:Int,e=.returned (.int .i64 k)/\k≠0/\(k !=0)=true/\JJ w w':=by
 obtain⟨⟨k,h1,h2⟩,h3⟩:=h;have:k≠0:=λh=>by simp[h]at h2
 exact⟨k,h1,this,by simp[this],h3⟩
theorem gm {e:Ending}(h:jH true w e w'):e=.returned (.int .i64 0)/\JJ w w':=by obtain⟨⟨k,h1,h2⟩,h3⟩:=h;rw[h2.2 rfl]at h1;exact⟨h1,h3⟩
theorem gY {g:Nat}{e f i j m n o p q:Value}{t:TypeId}{d:Nat×Nat}(h:w.heap[g]?=some (.cells #[e,f,i,j,m,n,o,p,q] t d)):w.cell? ⟨g,0,none⟩=some e/\w.cell? ⟨g,1,none⟩=some f/\w.cell? ⟨g,2,none⟩=some i/\w.cell? ⟨g,3,none⟩=some j/\w.cell? ⟨g,4,none⟩=some m/\w.cell? ⟨g,5,none⟩=some n/\w.cell? ⟨g,6,none⟩=some o/\w.cell? ⟨g,7,none⟩=some p/\w.cell? ⟨g,8,none⟩=some q:=by refine⟨?_,?_,?_,?_,?_,?_,?_,?_,?_⟩<;>rw[aA w g _ _ t d h]<;>rfl
theorem au {g:Nat}{e f i j m n o:Value}{t:TypeId}{d:Nat×Nat}(h:w.heap[g]?=some (.cells #[e,f,i,j,m,n,o] t d)):w.cell? ⟨g,0,none⟩=some e/\w.cell? ⟨g,1,none⟩=some f/\w.cell? ⟨g,2,none⟩=some i/\w.cell? ⟨g,3,none⟩=some j/\w.cell? ⟨g,4,none⟩=some m/\w.cell? ⟨g,5,none⟩=some n/\w.cell? ⟨g,6,none⟩=some o:=by refine⟨?_,?_,?_,?_,?_,?_,?_⟩<;>rw[aA w g _ _ t d h]<;>rfl
def FE:Wz:=⟨#[97,110,121]⟩
def xk:Wz:=⟨#[110,111,110,101]⟩
def fA (nm:Wz):Nat->List dO->Int|_,[]=>-1|k,f::r=>if f.name=nm then k else fA nm (k+1) r
def fN (l:List dO)(nm:Wz):Int:=fA nm 0 l
theorem vj (nm:Wz):∀(l:List dO)(k:Nat),fA nm k l<(k:Int)+l.length/\-1<=fA nm k l
 |[],k=>by unfold fA;simp;omega|f::r,k=>by
  have:=vj nm r (k+1);unfold fA;split
  .simp;omega
  .simp at this⊢;omega
theorem vk (nm:Wz):∀(l:List dO)(k:Nat),0<=fA nm k l->∃f,l[(fA nm k l).toNat-k]?=some f/\f.name=nm/\(k:Int)<=fA nm k l
 |[],k,h=>by unfold fA at h;omega|f::r,k,h=>by
  unfold fA at h⊢;split
  .rename_i e;exact⟨f,by simp,e,by omega⟩
  .rename_i e;rw[ap e]at h;obtain⟨g,h1,h2,h3⟩:=vk nm r (k+1) h;refine⟨g,?_,h2,by omega⟩;rw[show(fA nm (k+1) r).toNat-k=(fA nm (k+1) r).toNat-(k+1)+1 by omega,aO];exact h1
theorem tN {l:List dO}{nm:Wz}(h:0<=fN l nm):∃f,l[(fN l nm).toNat]?=some f/\f.name=nm:=by obtain⟨f,h1,h2,_⟩:=vk nm l 0 h;exact⟨f,h1,h2⟩
theorem tM (l:List dO)(nm:Wz):fN l nm<l.length/\-1<=fN l nm:=by have:=vj nm l 0;simpa[fN]using this
def eU:List dO->Int|[]=>0|f::r=>f.bits+eU r
def L9 (d:List dO)(k:Nat)(e:Int)(f:dO):Bool:=(cZ (bs f.name)&&!(f.name.toList==[97,110,121])&&!(f.name.toList==[110,111,110,101])&&decide (fN (d.take k) f.name<0))&&decide (1<=f.bits/\f.bits<=32/\e+f.bits<=256)
def pB (d:List dO):Nat->Int->List dO->Bool|_,_,[]=>true|k,sum,f::r=>L9 d k sum f&&pB d (k+1) (sum+f.bits) r
def nz (l:List dO):Bool:=decide (1<=l.length/\l.length<=12)&&pB l 0 0 l
def GY (f:dO):Prop:=cZ (bs f.name)=true/\f.name≠FE/\f.name≠xk/\1<=f.bits/\f.bits<=32
theorem zW {a b:Wz}{l:List UInt8}(d:b.data.toList=l)(h:(a.toList==l)=false):a≠b:=by rw[<-d,<-ab,lK]at h;simpa using h
theorem G9 {e:List dO}{d:Int}{f:dO}(h:L9 e k d f=true):GY f/\d+f.bits<=256:=by unfold L9 at h;simp only[aS,bC,bz]at h;exact⟨⟨h.1.1.1.1,zW (b:=FE) rfl h.1.1.1.2,zW (b:=xk) rfl h.1.1.2,h.2.1,h.2.2.1⟩,h.2.2.2⟩
theorem vT (i:List dO):∀(l:List dO)(k:Nat)(d:Int),0<=d->d<=256->pB i k d l=true->(∀f∈l,GY f)/\0<=eU l/\d+eU l<=256
 |[],_,d,h0,h1,_=>⟨by simp,by simp[eU],by simp[eU];omega⟩|f::r,k,d,h0,h1,h=>by
  unfold pB at h;rw[aS]at h;have g:=G9 h.1;have m:=g.1.2.2.2;obtain⟨j,n,o⟩:=vT i r (k+1) (d+f.bits) (by omega) g.2 h.2;refine⟨λx e=>?_,by unfold eU;omega,by unfold eU;omega⟩;rcases List.mem_cons.1 e with rfl|e
  .exact g.1
  .exact j x e
theorem oS {l:List dO}(h:nz l=true):(1<=l.length/\l.length<=12)/\(∀f∈l,GY f)/\eU l<=256:=by unfold nz at h;rw[aS,bC]at h;obtain⟨d,_,e⟩:=vT l l 0 0 (by omega) (by omega) h.2;exact⟨h.1,d,by omega⟩
theorem pc {l:List dO}(h:∀f∈l,GY f):∀k,0<=eU (l.take k)/\eU (l.take k)<=eU l/\0<=eU (l.drop k)/\eU (l.drop k)<=eU l:=by induction l with|nil=>intro k;simp[eU]|cons f r ih=>intro k;have i:=ih λx d=>h x (by simp[d]);have g:=(h f (by simp)).2.2.2;cases k with|zero=>have:=i 0;simp[eU]at this⊢;omega|succ k=>have:=i k;simp[eU]at this⊢;omega
def ix (bits:Int):Int:=2^bits.toNat-1
theorem jd {b:Int}(h0:0<=b)(h:b<=32):0<=ix b/\ix b<=4294967295:=by
 unfold ix;have h1:(1:Int)<=2^b.toNat:=by have:(0:Int)<2^b.toNat:=Int.pow_pos (by omega);omega
 have h2:(2:Nat)^b.toNat<=2^32:=oe (by omega) (by omega);have h3:((2:Nat)^b.toNat:Int)<=2^32:=by exact_mod_cast h2
 have d:(2:Int)^b.toNat<=4294967296:=by simpa using h3
 omega
def mZ (s:Wz):Bool:=(bs s).all i7
def BP (t:eF)(bits:Int):Bool:=decide (1<=t.op/\t.op<=6/\1<=t.form/\t.form<=4)&&!(decide (2<t.op)&&!decide (t.form=1))&&(!(decide (t.form=4)&&!decide (t.lo=0))&&!(!decide (t.form=3)&&!decide (t.hi=0))&&!(!decide (t.form=2)&&!decide (t.len=0))&&!(!decide (t.form=4)&&!t.pat.toList.isEmpty))&&decide (0<=t.lo/\t.lo<=ix bits/\0<=t.hi/\t.hi<=ix bits/\0<=t.len/\t.len<=bits)&&!(decide (t.form=2)&&(Go.bits .and .i64 t.lo (ix (bits-t.len)) !=0))&&!(decide (t.form=3)&&decide (t.hi<t.lo))&&!(decide (t.form=4)&&!(decide ((t.pat.size:Int)=bits)&&mZ t.pat))
def JR (l:List dO)(t:eF):Bool:=match l[(fN l t.field).toNat]? with|some f=>decide (0<=fN l t.field)&&BP t f.bits|none=>false
def lT (l:List dO):List iV->List iV->Bool|_,[]=>true|seen,s::r=>(match l[(fN l s.field).toNat]? with|some f=>decide (0<=fN l s.field)&&!(seen.any λt=>decide (t.field=s.field))&&decide (0<=s.value/\s.value<=ix f.bits)|none=>false)&&lT l (seen++[s]) r
def Ce (l:List dO)(s:List iV):Bool:=decide (s.length<=12)&&nz l&&lT l [] s
theorem Ji (s:Wz)(w:Wq)(hs:s.size<=9223372036854775807):Calls prog 97 #[.string s] w λe w'=>e=.returned (.bool (cZ (bs s)&&!lD s))/\w=w':=by
 have f:=Hi (sx s w);by_cases h1:s.size=0
 .have H:=Hi (jD s (by omega));have n:=qP s h1;clear h1;go_enter func97,ntmps97;go_wp2;go_ret;exact⟨en (by have e:=H.o;simp[e]),rfl⟩
 have n:=jw s h1;by_cases h2:24<s.size
 .have H:=Hi (jD s (by omega));have jl:(s.size:Int)>24:=by omega
  clear h2;go_enter func97,ntmps97;go_wp2;go_ret;exact⟨en (by have e:=H.o;simp[e]),rfl⟩
 have H:=Hi (uc s (by omega) h2);have jl:¬(s.size:Int)>24:=by omega
 clear h2;cases hres:lD s;case true=>rw[hres]at f;have F:=Hi hres;clear hres;go_enter func97,ntmps97;go_wp2_with(go_at_call 95;refine f.o.mono ?_;rintro e w' ⟨rfl,rfl⟩);go_ret;exact⟨en (by simp),rfl⟩
 rw[hres]at f;have F:=Hi hres;clear hres;go_enter func97,ntmps97;go_wp2_with(go_at_call 95;refine f.o.mono ?_;rintro e w' ⟨rfl,rfl⟩);clear f;go_loopw [3,4,5,19] (λ_ _ _ i wr=>wr=w/\∃k:Nat,k<=s.size/\i=.int .i64 k/\Hid (cZ (bs s)=nm (k==0) ((bs s).drop k)))(λ_ _ _ i _=>s.size-(intOf i).toNat);case atStart=>exact⟨rfl,0,aK _,rfl,H⟩
 case round=>
  obtain⟨rfl,k,p,rfl,h⟩:=hrel;by_cases jk:k<s.size
  .have g:Hid (cZ (bs s)=if !ie s[k].toNat&&((k==0)||!gX s[k].toNat)then false else nm false ((bs s).drop (k+1))):=by refine Hi ?_;have:=h.o;rw[jh s k jk]at this;exact this
   clear H h;go_upto_region 7 with fail;go_cut[4,5] (λu v o=>o=wr/\u=.int .u8 s[k].toNat/\v=.bool (ie s[k].toNat));case first=>
    go_wp2;all_goals(go_meet)
    all_goals(refine⟨rfl,by first|rfl|(simp;omega),gJ ?_⟩;rw[eD];simp[ie];omega)
   case rest=>
    obtain⟨rfl,rfl,rfl⟩:=hcut;generalize m:ie s[k].toNat=L at*;clear m;by_cases h0:k=0
    .have d:Hid (cZ (bs s)=if !L then false else nm false ((bs s).drop 1)):=Hi (by have:=g.o;subst h0;simpa using this);clear g;cases L
     .go_wp2;go_ret;exact⟨en (by have e:=d.o;simp[e]),rfl⟩
     .go_wp2;go_roundw;case rel=>exact⟨by trivial,1,by omega,by first|go_num|(simp;omega),d⟩
      case measure=>simp[intOf];omega
    .have t:((k:Int)==0)=false:=by simp;omega
     have d:Hid (cZ (bs s)=if !L&&!gX s[k].toNat then false else nm false ((bs s).drop (k+1))):=Hi (by have:=g.o;rw[show(k==0)=false by simp[h0]]at this;simpa using this);clear g;cases L
     .by_cases hd:48<=s[k].toNat/\s[k].toNat<=57
      .have jf:Hid (cZ (bs s)=nm false ((bs s).drop (k+1))):=Hi (by have:=d.o;rw[show gX s[k].toNat=true by simp[gX,hd]]at this;simpa using this);obtain⟨q,r⟩:=hd;go_wp2;go_roundw;case rel=>exact⟨by trivial,k+1,by omega,by go_num,jf⟩
       case measure=>simp[intOf];omega
      .have jf:Hid (cZ (bs s)=false):=Hi (by have:=d.o;rw[show gX s[k].toNat=false by simp[gX];omega]at this;simpa using this);go_wp2;all_goals first|(go_ret;exact⟨en (by have e:=jf.o;simp[e]),rfl⟩)|(exfalso;apply hd;omega)|(exfalso;simp at*;omega)
     .have jf:Hid (cZ (bs s)=nm false ((bs s).drop (k+1))):=Hi (by simpa using d.o);go_wp2;go_roundw;case rel=>exact⟨by trivial,k+1,by omega,by go_num,jf⟩
      case measure=>simp[intOf];omega
  .have j:Hid (cZ (bs s)=true):=Hi (by have:=h.o;rw[iL s k jk]at this;exact this);go_wp2;go_ret;exact⟨en (by have e:=j.o;simp[e]),rfl⟩
theorem E7 (s:Wz)(w:Wq):Calls prog 214 #[.string s] w λe w'=>e=.returned (.bool (lD s))/\w=w':=by
 go_enter func214,ntmps214;go_wp2;all_goals go_ret
 all_goals(refine⟨en ?_,rfl⟩;first|(simp only[lD,Lt,lx,List.any_nil, *,Bool.or_true,Dy,Bool.or_false];done)|(simp only[*,jW]at*;done))
theorem Jb:∀l:bM,nm false l=l.all iG|[]=>rfl|c::r=>by unfold nm;rw[Jb r,eC];unfold iG;cases jN c<;>cases fC c<;>simp
theorem JZ (c:UInt8)(r:bM):nm true (c::r)=(!fC c&&(c::r).all iG):=by
 unfold nm;rw[Jb r,eC];have:¬(jN c=true/\fC c=true):=by simp only[jN,fC,ie,gX,bC];omega
 unfold iG;cases h1:jN c<;>cases h2:fC c<;>simp_all
theorem Hv (s:Wz)(w:Wq)(hs:s.size<=9223372036854775807):Calls prog 213 #[.string s] w λe w'=>e=.returned (.bool (cZ (bs s)))/\w=w':=by
 by_cases h1:s.size=0
 .have H:=Hi (jD s (by omega));have o:=qP s h1;clear h1;go_enter func213,ntmps213;go_wp2;go_ret;exact⟨en H.o.symm,rfl⟩
 have o:=jw s h1;by_cases h2:24<s.size
 .have H:=Hi (jD s (by omega));have jl:(s.size:Int)>24:=by omega
  clear h2;go_enter func213,ntmps213;go_wp2;go_ret;exact⟨en H.o.symm,rfl⟩
 have d:=uc s (by omega) h2;have jl:¬(s.size:Int)>24:=by omega
 clear h2;have f:=jh s 0 (by omega);rw[List.drop_zero]at f;rw[f,JZ,<-f]at d;cases hd:fC s[0];case true=>
  rw[hd]at d;have H:=Hi d;have m:48<=s[0].toNat/\s[0].toNat<=57:=by simpa[fC,gX]using hd
  obtain⟨q,r⟩:=m;clear d f hd;go_enter func213,ntmps213;go_wp2;go_ret;exact⟨en (by have e:=H.o;simp[e]),rfl⟩
 rw[hd]at d;have H:=Hi d;have m:¬(48<=s[0].toNat/\s[0].toNat<=57):=by simpa[fC,gX]using hd
 clear d f hd;go_enter func213,ntmps213;go_upto_region 1 with fail;go_cut[21] (λv j=>j=w/\v=.bool false);case first=>
  go_wp2;all_goals(go_meet)
  all_goals(exact⟨rfl,gJ (by first|rfl|(simp;omega))⟩)
 case rest=>
 obtain⟨rfl,rfl⟩:=hcut;go_wp2_with fail;go_loopw [3,4] (λi _ wr=>wr=wc/\∃k:Nat,k<=s.size/\i=.int .i64 k/\Hid (cZ (bs s)=((bs s).drop k).all iG))(λi _ _=>s.size-(intOf i).toNat);case atStart=>exact⟨rfl,0,aK _,rfl,Hi (by rw[H.o];rfl)⟩
 case round=>
  obtain⟨rfl,k,p,rfl,h⟩:=hrel;by_cases jk:k<s.size
  .have g:Hid (cZ (bs s)=(iG s[k]&&((bs s).drop (k+1)).all iG)):=Hi (by have:=h.o;rw[jh s k jk]at this;exact this);clear H h;go_upto_region 7 with fail;go_cut[4,56] (λx v j=>j=wr/\x=.int .u8 s[k].toNat/\v=.bool (!iG s[k]));case first=>
    go_wp2;all_goals(go_meet)
    all_goals(refine⟨rfl,by first|rfl|(simp;omega),gJ ?_⟩;rw[eD];simp[iG,jN,fC,ie,gX];omega)
   case rest=>
    obtain⟨rfl,rfl,rfl⟩:=hcut;cases hL:iG s[k]
    .have jf:Hid (cZ (bs s)=false):=Hi (by rw[g.o,hL];rfl);clear hL g;go_wp2;go_ret;exact⟨en jf.o.symm,rfl⟩
    .have jf:Hid (cZ (bs s)=((bs s).drop (k+1)).all iG):=Hi (by rw[g.o,hL];rfl);clear hL g;go_wp2;go_roundw;case rel=>exact⟨by trivial,k+1,by omega,by go_num,jf⟩
     case measure=>simp[intOf];omega
  .have n:Hid (cZ (bs s)=true):=Hi (by rw[h.o,iL s k jk];rfl);go_wp2;go_ret;exact⟨en n.o.symm,rfl⟩
theorem oZ (s:Wz)(w:Wq)(hs:s.size<=9223372036854775807):Calls prog 138 #[.string s] w λe w'=>e=.returned (.bool (cZ (bs s)&&!lD s))/\w=w':=by
 have c1:=Hi (Hv s w hs);have c2:=Hi (E7 s w);cases h1:cZ (bs s)
 .rw[h1]at c1;go_enter func138,ntmps138;go_wp2_with(go_at_call 213;refine c1.o.mono ?_;rintro e w' ⟨rfl,rfl⟩);go_ret;exact⟨rfl,rfl⟩
 .rw[h1]at c1;go_enter func138,ntmps138;go_wp2_with(first|(go_at_call 213;refine c1.o.mono ?_;rintro e w' ⟨rfl,rfl⟩)|(go_at_call 214;refine c2.o.mono ?_;rintro e w' ⟨rfl,rfl⟩));go_ret;exact⟨by simp,rfl⟩
end Go.Proofs.YtgfgoaeaicefcaaGreatDoor
