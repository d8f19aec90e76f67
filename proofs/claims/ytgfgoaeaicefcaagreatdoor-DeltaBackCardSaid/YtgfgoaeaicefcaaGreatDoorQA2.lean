/- Part of DeltaBack. -/
import Derived.Test.YtgfgoaeaicefcaaGreatDoorQA1
import Derived.Lib.Join
import Derived.Deep.AppendLies
import Derived.Lib.SmallJoins
import Derived.Deep.OwnRows
set_option maxHeartbeats 16000000
set_option maxRecDepth 100000
set_option linter.all false
namespace Go.Proofs.YtgfgoaeaicefcaaGreatDoor
open Go.RowKit Tryz
variable {w w':Wq}{s:Wz}{base g n cap:Nat}
def ko (b:Bool)(w:Wq)(e:Ending)(w':Wq):Prop:=(∃(k:Int)(s:Value),e=.returned (.tuple #[I6 k,s])/\(k=0↔b=true))/\JJ w w'
theorem gB {b:Bool}{k:Int}{s:Value}(h:b=false)(d:k≠0)(c:JJ w w'):ko b w (.returned (.tuple #[I6 k,s])) w':=⟨⟨k,s,rfl,by rw[h];simp[d]⟩,c⟩
theorem BU {b:Bool}{s:Value}(h:b=true)(c:JJ w w'):ko b w (.returned (.tuple #[I6 0,s])) w':=⟨⟨0,s,rfl,by rw[h];simp⟩,c⟩
theorem BV {e:Ending}(h:ko false w e w'):∃(k:Int)(s:Value),e=.returned (.tuple #[I6 k,s])/\k≠0/\(k !=0)=true/\JJ w w':=by
 obtain⟨⟨k,s,h1,h2⟩,h3⟩:=h;have:k≠0:=λh=>by simp[h]at h2
 exact⟨k,s,h1,this,by simp[this],h3⟩
theorem tQ {e:Ending}(h:ko true w e w'):∃s:Value,e=.returned (.tuple #[I6 0,s])/\JJ w w':=by obtain⟨⟨k,s,h1,h2⟩,h3⟩:=h;rw[h2.2 rfl]at h1;exact⟨s,h1,h3⟩
def dP (b:Bool)(w:Wq)(e:Ending)(w':Wq):Prop:=e=.returned (.bool b)/\JJ w w'
def bo (s:Wz):Bool:=cZ (bs s)&&!lD s
def oW (c:bE):Bool:=decide (c.title.size<=256)&&nz c.fields&&(c.fields.all λf=>!lD f.name)&&!((!decide (c.routing=ByteArray.empty)&&decide (fN c.fields c.routing<0))||(decide (c.routing=ByteArray.empty)&&c.slim))
def ia (g:ay->Int):List ay->Int|[]=>0|b::r=>g b+ia g r
def ly (b:ay):Int:=b.ins.length+b.outs.length
def qI (b:ay):Int:=b.guards.length
def qH (b:ay):Int:=b.rules.length
def nI (b:ay):Int:=b.owns.length+b.routes.length
def kP (c:bE):Bool:=decide (c.boxes.length<=16/\ia ly c.boxes<=48/\ia qI c.boxes<=64/\ia qH c.boxes<=64/\ia nI c.boxes<=64/\c.links.length<=48/\c.slices.length<=8)
def me:List Wz->List Wz->Bool|_,[]=>true|seen,s::r=>bo s&&!(seen.any λq=>decide (q=s))&&me (seen++[s]) r
def iv:List Wz->List ay->Bool|_,[]=>true|seen,b::r=>bo b.name&&!(seen.any λq=>decide (q=b.name))&&me [] (b.ins++b.outs)&&iv (seen++[b.name]) r
def rv (c:bE):Bool:=iv [] c.boxes
def fT {α:Type}(P:List α->α->Bool):List α->List α->Bool|_,[]=>true|seen,x::r=>P seen x&&fT P (seen++[x]) r
def nX (c:bE)(f:i8)(g:gP):Bool:=(f g.port).isSome&&rN c.fields g.mat
def nH (c:bE)(f:i8)(b:Nat)(d:List db)(r:db):Bool:=decide (0<=r.prio/\r.prio<=65535)&&!(d.any λs=>decide (s.prio=r.prio))&&eE f b true [] r.frm&&rN c.fields r.mat&&Ce c.fields r.sets&&decide (r.dst.length<=4)&&eE f b false [] r.dst
def qT (c:bE):Int:=match c.fields[(fN c.fields c.routing).toNat]? with|some f=>f.bits|none=>0
def gh (c:bE)(f:i8)(b:Nat)(d:List dc)(p:dc):Bool:=!decide (c.routing=ByteArray.empty)&&decide (0<=p.len/\p.len<=qT c/\0<=p.value/\p.value<2^(qT c).toNat/\p.value%2^(qT c-p.len).toNat=0)&&!(d.any λq=>decide (q.value=p.value/\q.len=p.len))&&mS f b p.dst false
def tj (c:bE)(f:i8)(b:ay):Bool:=b.guards.all (nX c f)&&fT (nH c f b.ins.length) [] b.rules&&fT (gh c f b.ins.length) [] b.owns&&fT (gh c f b.ins.length) [] b.routes
def iZ (f:i8):Nat->List Wz->i8|_,[]=>f|k,s::r=>iZ (upd f s k) (k+1) r
def kF (b:ay):i8:=iZ mA 0 (b.ins++b.outs)
def pH (c:bE):Bool:=c.boxes.all λb=>tj c (kF b) b
def M5:Wz:=⟨#[46]⟩
def ju (b s:Wz):Wz:=(b++M5)++s
def nY (b:ay):List (Wz×Bool):=(b.ins.map λs=>(ju b.name s,true))++(b.outs.map λs=>(ju b.name s,false))
def eK (l:List ay):List (Wz×Bool):=l.flatMap nY
def zN (f:i8)(s:Wz)(k:Nat):i8:=if(f s).isSome then f else upd f s k
def dR (f:i8):Nat->List (Wz×Bool)->i8|_,[]=>f|k,x::r=>dR (zN f x.1 k) (k+1) r
def gO (c:bE):i8:=dR mA 0 (eK c.boxes)
def Cy (l:List (Wz×Bool))(k:Int):Bool:=match l[k.toNat]? with|some x=>x.2|none=>false
def oM (f:i8)(l:List (Wz×Bool))(s:Wz)(b:Bool):Bool:=match f s with|some k=>Cy l k==b|none=>false
def yM (f:i8)(l:List (Wz×Bool)):i8:=λs=>match f s with|some k=>if Cy l k then none else some k|none=>none
def iw (f:i8)(l:List (Wz×Bool)):i8->List eQ->Bool|_,[]=>true|free,x::r=>oM f l x.frm false&&oM f l x.dst true&&decide (1<=x.cost/\x.cost<=9999)&&(free x.frm).isSome&&iw f l (DE free x.frm) r
def ry (c:bE):Bool:=iw (gO c) (eK c.boxes) (yM (gO c) (eK c.boxes)) c.links
def pG (f:i8):List Wz->List Wz->Bool|_,[]=>true|seen,s::r=>(f s).isSome&&!(seen.any λq=>decide (q=s))&&pG f (seen++[s]) r
def rm (c:bE)(b:List dE)(s:dE):Bool:=bo s.name&&!(b.any λq=>decide (q.name=s.name))&&pG (gO c) [] s.ports&&rN c.fields s.whr
def oq (c:bE):Bool:=fT (rm c) [] c.slices
def jE (c:bE):Bool:=oW c&&kP c&&rv c&&pH c&&ry c&&oq c
theorem Gk (g:ay->Int)(l:List ay)(b:ay):ia g (l++[b])=ia g l+g b:=by induction l with|nil=>simp[ia]|cons x r ih=>simp only[aW,ia,ih];omega
theorem rY (s:Wz):∀(l:List Wz)(f:i8)(k:Nat),iZ f k (l++[s])=upd (iZ f k l) s ((k+l.length:Nat):Int)|[],f,k=>by simp[iZ]|x::r,f,k=>by rw[aW,iZ,rY s r,iZ];congr 2;simp;omega
theorem qO (x:Wz×Bool):∀(l:List (Wz×Bool))(f:i8)(k:Nat),dR f k (l++[x])=zN (dR f k l) x.1 (k+l.length)|[],f,k=>by simp[dR]|y::r,f,k=>by rw[aW,dR,qO x r,dR];congr 1;simp;omega
def gF (l:List Wz)(b:Wz):Wz:=⟨(Lib.join (l.map (·.data.toList)) b.data.toList).toArray⟩
def setT (x:iV):Wz:=(x.field++ba [32,61,32])++ez x.value
def kC (b:Wz):Nat->List iV->Wz|_,[]=>b|k,x::r=>kC ((b++(if k=0 then ba [32,115,101,116,32]else ba [44,32]))++setT x) (k+1) r
def pO (u:db):Wz:=ba [114,117,108,101,32]++ez u.prio
def si (u:db):Wz:=if u.frm.length=0 then pO u else pO u++(ba [32,102,114,111,109,32]++gF u.frm (ba [32]))
def pN (u:db):Wz:=si u++(ba [32,109,97,116,99,104,32]++gi u.mat)
def oO (u:db):Wz:=kC (pN u) 0 u.sets
def io (u:db):Wz:=if u.dst.length=0 then oO u++ba [32,100,114,111,112]else(oO u++ba [32,116,111,32])++gF u.dst (ba [44,32])
def fp (o:dc):Wz:=(((ba (gE o.value)++ba [47])++ez o.len)++ba [32,116,111,32])++o.dst
def kK (g:gP):Wz:=((ba [32,32,103,117,97,114,100,32]++g.port)++(if g.permit then ba [32,112,101,114,109,105,116,32]else ba [32,100,101,110,121,32]))++gi g.mat
def i6 (x:eQ):Wz:=if x.cost=1 then((ba [108,105,110,107,32]++x.frm)++ba [32,45,62,32])++x.dst else(((ba [108,105,110,107,32]++x.frm)++ba [32,45,62,32])++x.dst)++(ba [32,99,111,115,116,32]++ez x.cost)
def iI (b:Wz):List Wz->Wz|[]=>b|q::r=>iI (b++(ba [32]++q)) r
def gw (s:dE):Wz:=(iI (ba [115,108,105,99,101,32]++s.name) s.ports++ba [32,119,104,101,114,101,32])++gi s.whr
def bV {α:Type}(f:α->Wz)(l:List α):bM:=l.flatMap λx=>(f x).data.toList++[10]
def l8 (b:ay):bM:=bV id [ba [98,111,120,32]++b.name]++(bV kK b.guards++(bV (λu=>ba [32,32]++io u) b.rules++(bV (λo=>ba [32,32,111,119,110,32]++fp o) b.owns++bV (λo=>ba [32,32,114,111,117,116,101,32]++fp o) b.routes)))
def jb (l:List Wz):Prop:=∀s∈l,bo s=true
structure zO (u:db):Prop where
 prio:0<=u.prio/\u.prio<=65535
 frm:jb u.frm/\u.frm.length<=48
 mat:IU u.mat
 sets:u.sets.length<=12/\∀x∈u.sets,bo x.field=true/\0<=x.value/\x.value<=4294967295
 dst:jb u.dst/\u.dst.length<=4
structure vI (o:dc):Prop where
 value:0<=o.value/\o.value<=4294967295
 len:0<=o.len/\o.len<=32
 dst:bo o.dst=true
def N0 (g:gP):Prop:=bo g.port=true/\IU g.mat
def nu (s:Wz):Prop:=∃a b,bo a=true/\bo b=true/\s=ju a b
def NW (x:eQ):Prop:=nu x.frm/\nu x.dst/\1<=x.cost/\x.cost<=9999
def NU (s:dE):Prop:=bo s.name=true/\(∀q∈s.ports,nu q)/\s.ports.length<=48/\IU s.whr
theorem eN (h:bo s=true):1<=s.size/\s.size<=24:=by unfold bo at h;rw[aS]at h;exact mO h.1
theorem mI (h:nu s):s.size<=49:=by obtain⟨a,b,c,d,rfl⟩:=h;have:=eN c;have:=eN d;unfold ju;simp only[aJ,show M5.size=1 from rfl];omega
theorem MQ {l:List Wz}(h:jb l):Lib.lens (l.map (·.data.toList))<=24*l.length:=by induction l with|nil=>exact aK _|cons x r ih=>have h1:=eN (h x (by simp));have h2:=ih λs hs=>h s (by simp[hs]);have e:x.data.toList.length=x.size:=rfl;unfold Lib.lens at h2⊢;simp only[bP,List.sum_cons,aD];omega
theorem jZ {l:List Wz}(h:jb l)(b:Wz):(gF l b).size<=(24+b.size)*l.length:=by
 have e:(gF l b).size=(Lib.join (l.map (·.data.toList)) b.data.toList).length:=by unfold gF;rfl
 rw[e];cases l with|nil=>exact aK _|cons x r=>have h2:=MQ h;have c:b.data.toList.length=b.size:=rfl;rw[bP]at h2⊢;rw[Lib.join_length,c,aa];rw[aD]at h2⊢;have h3:b.size*r.length<=b.size*(r.length+1):=pW _ (by omega);rw[jU];omega
theorem Lk {x:iV}(h:bo x.field=true)(h0:0<=x.value):(setT x).size<=42:=by have:=eN h;have:=i4 h0;unfold setT;simp only[aJ,bn,aD,aL];omega
theorem CR:∀(l:List iV)(b:Wz)(k:Nat),(∀x∈l,bo x.field=true/\0<=x.value/\x.value<=4294967295)->(kC b k l).size<=b.size+47*l.length
 |[],b,k,_=>by simp[kC]|x::r,b,k,h=>by
  have h1:=Lk (h x (by simp)).1 (h x (by simp)).2.1;have h2:=CR r ((b++(if k=0 then ba [32,115,101,116,32]else ba [44,32]))++setT x) (k+1) λy c=>h y (by simp[c]);have h3:(if k=0 then ba [32,115,101,116,32]else ba [44,32]:Wz).size<=5:=by split<;>simp[bn]
  unfold kC;simp only[aJ]at h2;rw[aD];omega
theorem CY {u:db}(h:zO u):(pO u).size<=20:=by have:=i4 h.prio.1;unfold pO;simp only[aJ,bn,aD,aL];omega
theorem CX {u:db}(h:zO u):(si u).size<=1226:=by
 have h1:=CY h;have h2:=jZ h.frm.1 (ba [32]);have h3:=h.frm.2;unfold si;split
 .omega
 .simp only[aJ,bn,aD,aL]at h2⊢;omega
theorem CW {u:db}(h:zO u):(pN u).size<=5585:=by have h1:=CX h;have h2:=mN h.mat;unfold pN;simp only[aJ,bn,aD,aL];omega
theorem CV {u:db}(h:zO u):(oO u).size<=6149:=by have h1:=CW h;have h2:=CR u.sets (pN u) 0 h.sets.2;have h3:=h.sets.1;unfold oO;omega
theorem xV {u:db}(h:zO u):(io u).size<=6300:=by
 have h1:=CV h;have h2:=jZ h.dst.1 (ba [44,32]);have h3:=h.dst.2;unfold io;split
 .simp only[aJ,bn,aD,aL];omega
 .simp only[aJ,bn,aD,aL]at h2⊢;omega
theorem oP {o:dc}(h:vI o):(fp o).size<=60:=by have h1:=p9 (v:=o.value);have h2:=i4 h.len.1;have h3:=eN h.dst;unfold fp;simp only[aJ,bn,aD,aL];omega
theorem xv {g:gP}(h:N0 g):(kK g).size<=4400:=by
 have h1:=eN h.1;have h2:=mN h.2;have h3:(if g.permit then ba [32,112,101,114,109,105,116,32]else ba [32,100,101,110,121,32]:Wz).size<=8:=by split<;>simp[bn]
 unfold kK;simp only[aJ]at*;simp only[bn,aD,aL];omega
theorem xu {x:eQ}(h:NW x):(i6 x).size<=200:=by have h1:=mI h.1;have h2:=mI h.2.1;have h3:=i4 (v:=x.cost) (by have:=h.2.2.1;omega);unfold i6;split;all_goals(simp only[aJ,bn,aD,aL];omega)
theorem xX:∀(l:List Wz)(b:Wz),(∀q∈l,nu q)->(iI b l).size<=b.size+50*l.length|[],b,_=>by simp[iI]|q::r,b,h=>by have h1:=mI (h q (by simp));have h2:=xX r (b++(ba [32]++q)) λy c=>h y (by simp[c]);unfold iI;simp only[aJ,bn,aD,aL]at h2;rw[aD];omega
theorem uO {s:dE}(h:NU s):(gw s).size<=6800:=by have h1:=eN h.1;have h2:=xX s.ports (ba [115,108,105,99,101,32]++s.name) h.2.1;have h3:=mN h.2.2.2;have b:=h.2.2.1;unfold gw;simp only[aJ,bn,aD,aL]at h2⊢;omega
structure GZ (T e:TypeId)(bytes:Nat):Prop where ht:prog.underlying T=some (.slice e)hi:∃i z,prog.info? e=some i/\i.zero=some z/\i.size=1/\i.bytes=bytes/\z.cells.size=1
theorem GZ.mk' {T e:TypeId}{bytes:Nat}{z:Value}(ht:prog.underlying T=some (.slice e))(hi:(prog.info? e).map (λi=>(i.zero,i.size,i.bytes))=some (some z,1,bytes))(c:z.cells.size=1):GZ T e bytes:=by obtain⟨d,h1,h2,h3,b⟩:=mc hi;exact⟨ht,d,z,h1,h2,h3,b,c⟩
section
variable {T e:TypeId} {bytes:Nat} {w:Wq} {ops:Array Oper} {rest:List Oper} {o:Oper} {a:Act} {Q:Exit→Act→Wq→Prop} {base n g cap:Nat} {v:Value} {xs:List Value}
theorem kE (E:GZ T e bytes)(m:o.guard=none)(s x:Operand)(t:o.op=.call {callee:=.builtin .append,args:=#[s,x],argTypes:=#[T,T]})(base n:Nat)(v:Value)(xs:List Value)(hs:a.eval s=v)(b:w.ownsRow base e 1 v n xs)(H:Nat)(h:w.heap.size=H)(u:Value)(B:a.eval x=.slice (some ⟨H,0,none⟩) 1 1)(A:u.oneCell'=true)(q:(n+1)*bytes<=140737488355328)(r:n+1<=maxLen)(l:base<=w.heap.size)(j:∀g cap w',w'.ownsRow base e 1 (.slice (some ⟨g,0,none⟩) (n+1) cap) (n+1) (xs++[u])->Below base w w'->(v.ownBlock=some g\/g=H+1)->wpList prog ops Q rest (a.put o.dst (.slice (some ⟨g,0,none⟩) (n+1) cap)) w'):wpList prog ops Q (o::rest) a (w.alloc (.cells #[u] e (0,0))):=by subst h;obtain⟨i,z,h1,h2,h3,d,f⟩:=E.hi;refine wpList_append_lies _ m s x T t base e i z 1 bytes E.ht h1 h2 h3 d f (by decide) v n xs hs (b.alloc _) ⟨w.heap.size,0,none⟩ 1 1 [u] B rfl (World.news_of_block (aG w _)) (by intro y c;simp only[dN,bG,jf]at c;subst c;exact A) (by decide) r q (by simp;omega) (w.heap.size+1) (by simp) ?_;intro g cap w' D C vb _;exact j g cap w' D (((aB base w).alloc l _).grown C (by simp;omega) λk p=>(b.lt k p).1) vb
theorem Gy (h:w.ownsRow base e 1 (.slice (some ⟨g,0,none⟩) (n+1) cap) (n+1) (xs++[v])):w.ownsRow base e 1 (.slice (some ⟨g,0,none⟩) n cap) n xs:=by
 obtain⟨h1,h2⟩:=h;have i:xs.length=n:=by simpa using h1
 refine⟨by omega,.inr ?_⟩;rcases h2 with⟨h2,_⟩|⟨j,jy,b,h2,c,f,k,d,hs,ht⟩
 .cases h2
 .cases h2;refine⟨g,cap,b,rfl,c,f,by omega,d,hs,?_⟩;have:(b.toList.take ((n+1)*1)).take (n*1)=xs:=by rw[ht,gr,<-i,my]
  rw[yx]at this;rwa[jl (by omega)]at this
theorem kD (h:w.ownsRow base e 1 (.slice (some ⟨g,0,none⟩) n cap) n xs){j:Nat}{u:Value}(b:xs[j]?=some u):w.cell? ⟨g,j,none⟩=some u:=by
 have c:(⟨g,0,none⟩:Addr).add j=⟨g,j,none⟩:=by unfold Addr.add;split<;>simp_all
 rw[<-c];exact ai h (g:=g) rfl j u b
theorem lC (h:w.ownsRow base e 1 v n xs){B:Nat}(c:Below B w w')(hB:w.heap.size<=B):w'.ownsRow base e 1 v n xs:=by
 obtain⟨h1,h2|⟨g,cap,f,d,i,b,h3⟩⟩:=h
 .exact⟨h1,.inl h2⟩
 .exact⟨h1,.inr ⟨g,cap,f,d,i,(c.block _ (by have:=(Array.getElem?_eq_some_iff.1 b).1;omega)).t b,h3⟩⟩
theorem wR (h:w.ownsRow base e 1 (.slice (some ⟨g,0,none⟩) n cap) n xs)(j:Nat)(u:Value):(w.setCell ⟨g,j,none⟩ u).ownsRow base e 1 (.slice (some ⟨g,0,none⟩) n cap) n (xs.set j u):=(iA h j u).1
theorem gN (h:w.ownsRow base e 1 v n xs):∃A c,v=.slice A n c/\n<=c/\c<=maxLen:=by
 rcases h.2 with⟨rfl,rfl⟩|⟨g,cap,b,rfl,_,_,h1,h2,_⟩
 .exact⟨none,0,rfl,al _,by decide⟩
 .exact⟨_,cap,rfl,h1,h2⟩
theorem JB (h:w.ownsRow base e 1 (.slice (some ⟨g,0,none⟩) n cap) n xs):base<=g/\g<w.heap.size:=h.lt g rfl
end
section
variable {T e:TypeId} {bytes:Nat} {w:Wq}
theorem Lo (E:GZ T e bytes)(ty:TypeId)(base n:Nat)(v:Value)(xs:List Value)(c:w.ownsRow base e 1 v n xs)(p m:Nat)(l:Value)(b:List Value)(d:w.ownsRow p e 1 l m b)(B:∀u∈b,u.oneCell'=true)(x:(n+m)*bytes<=140737488355328)(y:n+m<=maxLen)(h:base<=w.heap.size):∃f w',(Builtin.append_ #[T,T] ty #[v,l]).run prog w=.ok f w'/\w'.ownsRow base e 1 f (n+m) (xs++b)/\Below base w w':=by
 obtain⟨i,z,h1,h2,h3,q,r⟩:=E.hi;rcases d.2 with⟨rfl,rfl⟩|⟨g,cap,D,rfl,J,I,j,G,H,ht⟩
 .have C:b=[]:=List.length_eq_zero_iff.1 (by have:=d.1;omega);subst C;refine⟨v,w,?_,by simpa using c,aB _ _⟩;rcases c.2 with⟨rfl,rfl⟩|⟨g,cap,D,rfl,_,_,j,_⟩
  .simp[Builtin.append_,rn E.ht,sizeOf,typeInfo,h1,Builtin.lenOf,Builtin.firstCells]
  .simp[Builtin.append_,rn E.ht,sizeOf,typeInfo,h1,Builtin.lenOf,Builtin.firstCells,j,storeCells]
 .obtain⟨f,w',hr,A,F,_⟩:=run_append_own w base T ty e i z 1 bytes E.ht h1 h2 h3 q r (by decide) v n xs c ⟨g,0,none⟩ m cap b (by have:=d.1;omega) (ai d rfl) B y x h;exact⟨f,w',hr,A,(aB base w).grown F h λk t=>(c.lt k t).1⟩
theorem xO (E:GZ T e bytes){ops:Array Oper}{o:Oper}{a:Act}{K:Act->Wq->Prop}{Q:Exit->Act->Wq->Prop}{i:Prop}(k:o.guard=none)(s x:Operand)(q:o.op=.call {callee:=.builtin .append,args:=#[s,x],argTypes:=#[T,T]})(base n:Nat)(v:Value)(xs:List Value)(hs:a.eval s=v)(r:w.ownsRow base e 1 v n xs)(f m:Nat)(d:Value)(c:List Value)(A:a.eval x=d)(t:w.ownsRow f e 1 d m c)(y:∀u∈c,u.oneCell'=true)(l:(n+m)*bytes<=140737488355328)(p:n+m<=maxLen)(j:base<=w.heap.size)(h:∀b w',w'.ownsRow base e 1 b (n+m) (xs++c)->Below base w w'->K (a.put o.dst b) w'):if Region.wanted o (yielded ops a.tmps)=true then Oper.wp prog o a w K Q else i:=by
 have z:Region.wanted o (yielded ops a.tmps)=true:=by simp[Region.wanted,k]
 rw[ax z];obtain⟨b,w',hr,h2,h3⟩:=Lo E o.type base n v xs r f m d c t y l p j;unfold Oper.wp execOp;simp only[q,resolve,invoke,builtin,rQ,rP,jA,kj,bP,eg,hs,A,hr];exact h b w' h2 h3
end
abbrev OE (l:List Int):List Value:=l.map (Value.int .u8)
abbrev im (w:Wq)(base:Nat)(v:Value)(xs:List Int):Prop:=w.ownsRow base 5 1 v xs.length (OE xs)
theorem im.made (w:Wq)(n:Nat)(b:n<=maxLen):im (w.alloc (.cells (madeCells #[.int .u8 0] n) 5 (0,0))) w.heap.size (.slice (some ⟨w.heap.size,0,none⟩) n n) (List.replicate n 0):=by unfold im;rw[List.length_replicate];refine⟨by simp,.inr ⟨w.heap.size,n,_,rfl,al _,aG w _,al _,b,by simp[size_madeCells],?_⟩⟩;rw[gr,ah (by simp[size_madeCells])];apply List.ext_getElem (by simp[madeCells]);intro i h1 h2;simp[madeCells,Nat.mod_one]
theorem im.set {xs:List Int}(h:im w base (.slice (some ⟨g,0,none⟩) n cap) xs)(b:n=xs.length)(j:Nat)(c:Int):im (w.setCell ⟨g,j,none⟩ (.int .u8 c)) base (.slice (some ⟨g,0,none⟩) n cap) (xs.set j c):=by subst b;have:=wR h j (.int .u8 c);unfold im;rw[dX,OE,List.map_set];exact this
theorem im.cell {xs:List Int}(h:im w base (.slice (some ⟨g,0,none⟩) n cap) xs)(d:n=xs.length){j:Nat}(b:j<n):∃c,w.cell? ⟨g,j,none⟩=some (.int .u8 c):=by subst d;exact⟨xs[j],kD h (by simp[OE,aF b])⟩
theorem tU {v:Value}{xs:List Int}(h:w.ownsRow base 5 1 v n (OE xs))(b:n=xs.length):(convert 177 9 v).run prog w=.ok (.string (strOfNums xs)) w:=by
 rcases Go.Joins.ownsRow_forms h with⟨rfl,h0⟩|⟨g,cap,rfl⟩
 .have:xs=[]:=List.length_eq_zero_iff.1 (by omega);subst this;have:=run_convert_bytes_nil (P:=prog) w 177 5 underlying177 underlying5 0 0 9 underlying9;exact this
 .exact run_convert_bytes_arg (P:=prog) w 177 5 underlying177 underlying5 g 0 n cap xs b.symm (λi hi=>by rw[aY,h.cellAt i (by omega)];simp only[OE,aq,aF (show i<xs.length by omega),jk];simp[List.getD,aF (show i<xs.length by omega)]) 9 underlying9
theorem pn (l:List Int):(strOfNums l).size=l.length:=by simp[strOfNums,ByteArray.size]
theorem Nr (w:Wq)(n:Nat)(b:n<=1000000):(Instr.makeSlice 177 (I6 (n:Int)) (I6 (n:Int))).run prog w=.ok (.slice (some ⟨w.heap.size,0,none⟩) n n) (w.alloc (.cells (madeCells #[.int .u8 0] n) 5 (0,0))):=run_make_row' 177 5 (.int .u8 0) 1 underlying177 (by kernel_rfl) rfl .i64 .i64 n (by omega) (by omega) w
theorem lH:GZ 29 9 16:=GZ.mk' underlying29 (z:=.string ByteArray.empty) (by kernel_rfl) rfl
abbrev di (w:Wq)(base:Nat)(v:Value)(l:List Wz):Prop:=w.ownsRow base 9 1 v l.length (l.map Value.string)
theorem Ez:GZ 315 219 16:=GZ.mk' underlying315 (z:=.nilIface) (by kernel_rfl) rfl
def eY:bJ->Value|.leaf b=>.iface 317 (.agg #[.bool b])|.test t=>.iface 287 (.agg (fM t).toArray)|.not x=>.iface 319 (.agg #[eY x])|.and l r=>.iface 323 (.agg #[eY l,eY r])|.or l r=>.iface 324 (.agg #[eY l,eY r])
theorem rl (t:bJ):∃T x,eY t=.iface T x:=by cases t<;>exact⟨_,_,rfl⟩
def qW (w:Wq)(B:Nat)(v:Value)(p:List bJ):Prop:=w.ownsRow B 219 1 v p.length (p.map eY).reverse
theorem xl {B len b off:Nat}{l:List de}(h:iq w B (.slice (some ⟨b,off,none⟩) len cap) l){k:Nat}(j:k<l.length):b<B/\∃x,l[k]?=some x/\Sm x.test.field/\Sm x.test.pat/\w.cell? ⟨b,off+k*8,none⟩=some (I6 x.kind)/\w.cell? ⟨b,off+k*8+1,none⟩=some (.string x.test.field)/\w.cell? ⟨b,off+k*8+2,none⟩=some (I6 x.test.op)/\w.cell? ⟨b,off+k*8+3,none⟩=some (I6 x.test.form)/\w.cell? ⟨b,off+k*8+4,none⟩=some (I6 x.test.lo)/\w.cell? ⟨b,off+k*8+5,none⟩=some (I6 x.test.hi)/\w.cell? ⟨b,off+k*8+6,none⟩=some (I6 x.test.len)/\w.cell? ⟨b,off+k*8+7,none⟩=some (.string x.test.pat):=by obtain⟨f,c,x,m,⟨i,h1,h2⟩,d⟩:=aX.el h j;subst i;exact⟨f,x,m,h1,h2,d 0 _ rfl,d 1 _ rfl,d 2 _ rfl,d 3 _ rfl,d 4 _ rfl,d 5 _ rfl,d 6 _ rfl,d 7 _ rfl⟩
def FK (o:Option bJ)(w:Wq)(e:Ending)(w':Wq):Prop:=(∃v b,e=.returned (.tuple #[v,.bool b])/\b=o.isSome/\∀t,o=some t->v=eY t)/\JJ w w'
theorem yY {o:Option bJ}(h:o=none)(b:JJ w w'):FK o w (.returned (.tuple #[.nilIface,.bool false])) w':=⟨⟨_,_,rfl,by rw[h];rfl,λt e=>by rw[h]at e;cases e⟩,b⟩
theorem E6 {m c d f i j k l:Value}{t:TypeId}{b:Nat×Nat}(h:w.heap[g]?=some (.cells #[m,c,d,f,i,j,k,l] t b)):w.cell? ⟨g,1,none⟩=some c/\w.cell? ⟨g,2,none⟩=some d/\w.cell? ⟨g,3,none⟩=some f/\w.cell? ⟨g,4,none⟩=some i/\w.cell? ⟨g,5,none⟩=some j/\w.cell? ⟨g,6,none⟩=some k/\w.cell? ⟨g,7,none⟩=some l:=by refine⟨?_,?_,?_,?_,?_,?_,?_⟩<;>rw[aA w g _ _ t b h]<;>rfl
theorem tc (h:s.data.toList=[]):s=ByteArray.empty:=by cases s with|mk d=>cases d;simp at h;subst h;rfl
theorem FS (l:List de)(v:Value)(B:Nat)(w:Wq)(Z:iq w B v l)(hB:B<=w.heap.size)(hn:l.length<=64):Calls prog 248 #[v] w (FK (jT l) w):=by
 obtain⟨A,cap,rfl,hcl,hcap⟩:=aX.form Z;have qw:Hid (jT l=so (jY [] (l.drop 0))):=Hi rfl;generalize jT l=R at*;have q0:=Hi (aB w.heap.size w);have qt:Hid (qW w w.heap.size (.slice none 0 0) []):=Hi (dF _ _ _ _);replace Z:=Hi Z;go_enter func248,ntmps248;go_wp2_with fail;go_loopw [2,3,4,6,7,8,11,29,40,49,62] (λ_ _ v _ _ _ i _ _ _ _ wr=>∃(k:Nat)(p:List bJ),k<=l.length/\i=I6 k/\p.length<=k/\Hid (R=so (jY p (l.drop k)))/\Hid (qW wr w.heap.size v p)/\Hid (JJ w wr)) (λ_ _ _ _ _ _ i _ _ _ _ _=>l.length-(intOf i).toNat);case atStart=>exact⟨0,[],aK _,rfl,aK _,qw,qt,q0⟩
 case round=>
  obtain⟨k,p,hk,rfl,q3,X,d,H⟩:=hrel;clear qw qt q0;by_cases hlt:k<l.length
  .have hN:=iq.below Z.o H.o hB;obtain⟨b,off,rfl⟩:=aX.addr hN (by omega);obtain⟨hb,x,hx,q2,qs,e0,e1,e2,e3,e4,e5,e6,e7⟩:=xl hN hlt;have f:Hid (R=match pq p x with|some q=>so (jY q (l.drop (k+1)))|none=>none):=Hi (by rw[X.o,fP hx];simp only[jY];cases pq p x<;>rfl);clear X hN hx;obtain⟨h,⟨K,op,E,lo,hi,I,J⟩⟩:=x;simp only at q2 qs e0 e1 e2 e3 e4 e5 e6 e7;have q8:=H.o.size;have qy:=Hi λo=>H.o.alloc q8 o;obtain⟨O,c1,rfl,qo,va⟩:=gN d.o;have qz:=Hi λo=>jQ d.o o;clear d;go_upto_region 4 with fail;go_cut[6] (λu M=>u=.pointer (some ⟨wr.heap.size,0,none⟩)/\Hid (M.heap[wr.heap.size]?=some (.cells #[I6 h,.string K,I6 op,I6 E,I6 lo,I6 hi,I6 I,.string J] 46 (0,0)))/\Hid (JJ w M)/\Hid (qW M w.heap.size (.slice O p.length c1) p));case first=>go_wp2_with fail;go_meet;exact⟨rfl,Hi (aG wr _),qy.o _,qz.o _⟩
   case rest=>
   obtain⟨rfl,Y,m,d⟩:=hcut;clear qy qz e0 e1 e2 e3 e4 e5 e6 e7;have n0:wc.cell? ⟨wr.heap.size,0,none⟩=some (I6 h):=by rw[aA wc _ _ _ _ _ Y.o];rfl
   obtain⟨n1,n2,n3,n4,n5,n6,n7⟩:=E6 Y.o;have q1:p.length<=64:=by omega
   have jm:(p.length+1)*16<=140737488355328/\p.length+1<=maxLen:=by unfold maxLen;omega
   have qg:=m.o.size;have q7:wr.heap.size<wc.heap.size:=(Array.getElem?_eq_some_iff.1 Y.o).1;clear Y;by_cases h3:h=3
   .subst h3;have c:Hid (R=so (jY (.test ⟨K,op,E,lo,hi,I,J⟩::p) (l.drop (k+1)))):=f;clear f;go_wp2_with(at_builtin;refine kE Ez rfl (.tmp 42) (.tmp 47) rfl w.heap.size p.length (.slice O p.length c1) _ rfl d.o wc.heap.size rfl (eY (.test ⟨K,op,E,lo,hi,I,J⟩)) rfl rfl jm.1 jm.2 qg ?_;intro g' jy w4 y jn _;have j9:=Hi y;have U:=Hi (m.o.t jn);clear y jn);go_roundw;case rel=>exact⟨k+1,_::p,by omega,by go_num,by simp;omega,c,Hi (by unfold qW;simpa using j9.o),U⟩
    case measure=>simp[intOf];omega
   have h3':(h !=3)=true:=by simp[h3]
   cases z:zT ⟨K,op,E,lo,hi,I,J⟩
   .have c:=Hi (yY (w:=w) (w':=wc) (show R=none by rw[f.o];simp only[pq,h3,z,not_false_eq_true,and_self,vY,ne_eq]) m.o);replace z:Hid (zT ⟨K,op,E,lo,hi,I,J⟩=false):=Hi z;clear f d h3;go_wp2_with fail;all_goals first|(go_ret2;exact c.o)|(exfalso;have:=z.o;simp only[zT,bX]at this;apply this;simp only[ab]at*;refine⟨?_,‹_›,‹_›,‹_›,‹_›,‹_›,?_⟩<;>exact tc ‹_›)
   obtain⟨rfl,rfl,rfl,rfl,rfl,rfl,rfl⟩:K=⟨#[]⟩/\op=0/\E=0/\lo=0/\hi=0/\I=0/\J=⟨#[]⟩:=by unfold zT at z;exact dC z
   clear z q2 qs;by_cases k1:h=1
   .subst k1;have c:Hid (R=so (jY (.leaf true::p) (l.drop (k+1)))):=f;clear f;go_wp2_with(at_builtin;refine kE Ez rfl (.tmp 32) (.tmp 38) rfl w.heap.size p.length (.slice O p.length c1) _ rfl d.o wc.heap.size rfl (eY (.leaf true)) rfl rfl jm.1 jm.2 qg ?_;intro g' jy w4 y jn _;have j9:=Hi y;have U:=Hi (m.o.t jn);clear y jn);go_roundw;case rel=>exact⟨k+1,_::p,by omega,by go_num,by simp;omega,c,Hi (by unfold qW;simpa using j9.o),U⟩
    case measure=>simp[intOf];omega
   by_cases k2:h=2
   .subst k2;have c:Hid (R=so (jY (.leaf false::p) (l.drop (k+1)))):=f;clear f;go_wp2_with(at_builtin;refine kE Ez rfl (.tmp 32) (.tmp 38) rfl w.heap.size p.length (.slice O p.length c1) _ rfl d.o wc.heap.size rfl (eY (.leaf false)) rfl rfl jm.1 jm.2 qg ?_;intro g' jy w4 y jn _;have j9:=Hi y;have U:=Hi (m.o.t jn);clear y jn);go_roundw;case rel=>exact⟨k+1,_::p,by omega,by go_num,by simp;omega,c,Hi (by unfold qW;simpa using j9.o),U⟩
    case measure=>simp[intOf];omega
   by_cases k4:h=4
   .subst k4;cases p with|nil=>have c:=Hi (yY (w:=w) (w':=wc) (show R=none by rw[f.o];rfl) m.o);clear f d;go_wp2_with fail;go_ret2;exact c.o|cons t r=>
     have c:Hid (R=so (jY (.not t::r) (l.drop (k+1)))):=f;simp only[aD]at q3 q1 qo jm;obtain⟨g,j4,S,F,qa⟩:=d.o.form (by simp);injection S with hA _ hcc;subst hA hcc;obtain⟨T,x,j⟩:=rl t;have c0:wc.cell? ⟨g,r.length,none⟩=some (.iface T x):=kD d.o (by simp[j]);have c2:wc.frozen? ⟨g,r.length,none⟩=false:=d.o.frozenAt r.length;have j8:=Hi (wR d.o r.length (eY (.not t)));have V:=Hi (m.o.setCell (p:=⟨g,r.length,none⟩) (show w.heap.size<=g from F) (eY (.not t)));simp only[eY,j]at j8 V;clear f d F qa;replace j:=Hi j;go_wp2_with fail;go_roundw;case rel=>exact⟨k+1,.not t::r,by omega,by go_num,by simp;omega,c,Hi (by unfold qW;simpa[eY,j.o]using j8.o),V⟩
     case measure=>simp[intOf];omega
   by_cases k5:h=5\/h=6
   .rcases p with _|⟨t,_|⟨u,r⟩⟩
    .have c:=Hi (yY (w:=w) (w':=wc) (show R=none by rw[f.o];rcases k5 with rfl|rfl<;>rfl) m.o);clear f d;rcases k5 with rfl|rfl;all_goals(go_wp2_with fail;go_ret2;exact c.o)
    .have c:=Hi (yY (w:=w) (w':=wc) (show R=none by rw[f.o];rcases k5 with rfl|rfl<;>rfl) m.o);clear f d;rcases k5 with rfl|rfl;all_goals(go_wp2_with fail;go_ret2;exact c.o)
    .rcases k5 with rfl|rfl;obtain⟨C,c,hC⟩:∃C,Hid (R=so (jY (C::r) (l.drop (k+1))))/\eY C=.iface 323 (.agg #[eY u,eY t]):=⟨.and u t,f,rfl⟩;rotate_left;obtain⟨C,c,hC⟩:∃C,Hid (R=so (jY (C::r) (l.drop (k+1))))/\eY C=.iface 324 (.agg #[eY u,eY t]):=⟨.or u t,f,rfl⟩;all_goals
     simp only[aD]at q3 q1 qo jm;obtain⟨g,j4,S,F,qa⟩:=d.o.form (by simp);injection S with hA _ hcc;subst hA hcc;obtain⟨T,x,j⟩:=rl t;obtain⟨D,N,G⟩:=rl u;have c0:wc.cell? ⟨g,r.length,none⟩=some (.iface D N):=kD d.o (by simp[G]);have c3:wc.cell? ⟨g,r.length+1,none⟩=some (.iface T x):=kD d.o (by simp[j]);have hw1:IntKind.i64.wrap ((r.length:Int)+1-1)=(r.length:Int):=by rw[Int.add_sub_cancel];exact bu _ (by omega)
     have hlt1:¬((r.length:Int)+1<1):=by omega
     have hw2:IntKind.i64.wrap (r.length:Int)=(r.length:Int):=bu _ (by omega);have hr1:(0:Int)<=(r.length:Int):=by omega
     have hr2:(r.length:Int)<(r.length:Int)+1+1:=by omega
     have hr3:(0:Int)<=(r.length:Int)+1:=by omega
     have hr4:(r.length:Int)+1<(r.length:Int)+1+1:=by omega
     have hr5:((r.length:Int)+1).toNat=r.length+1:=by omega
     obtain⟨L,rfl⟩:=Jv wc;go_upto_region 23 with fail;go_cut[8] (λv M=>v=.pointer (some ⟨L.heap.size,0,none⟩)/\Hid (M.heap[L.heap.size]?=some (.cells #[.iface D N,.iface T x] 321 (0,0)))/\Hid (JJ L M));case first=>go_wp2_with fail;go_region_held3 (λW=>W.cell? ⟨g,r.length,none⟩=some (.iface D N)/\W.cell? ⟨g,r.length+1,none⟩=some (.iface T x)) (first|exact hHeld|go_keep) (fail);go_wp2_with fail;go_meet;exact⟨rfl,Hi (aG L _),Hi ((Jz.alloc Jq _).drew)⟩
     case rest=>
     obtain⟨rfl,ql,qf⟩:=hcut;have qb:=Hi (Gy (by have:=lC d.o qf.o Jq;simpa[j,G]using this:wc.ownsRow w.heap.size 219 1 (.slice (some ⟨g,0,none⟩) (r.length+1+1) c1) (r.length+1+1) (((r.map eY).reverse++[.iface D N])++[.iface T x])));have qi:=Hi (m.o.t (qf.o.mono qg));have d0:wc.cell? ⟨g,r.length,none⟩=some (.iface D N):=kD qb.o (by simp);have d1:wc.frozen? ⟨g,r.length,none⟩=false:=qb.o.frozenAt r.length;have m0:=(qf.o.cell (p:=⟨wr.heap.size,0,none⟩) q7).t n0;have p0:wc.cell? ⟨L.heap.size,0,none⟩=some (.iface D N):=by rw[aA wc _ _ _ _ _ ql.o];rfl
     have p1:wc.cell? ⟨L.heap.size,1,none⟩=some (.iface T x):=by rw[aA wc _ _ _ _ _ ql.o];rfl
     have j8:=Hi (wR qb.o r.length (eY C));have V:=Hi (qi.o.setCell (p:=⟨g,r.length,none⟩) (show w.heap.size<=g from F) (eY C));rw[j,G]at hC;rw[hC]at j8 V;clear f d F qa ql qf qb c0 c3 n0;replace hC:=Hi hC;replace j:=Hi j;replace G:=Hi G;go_wp2_with fail;go_roundw;case rel=>exact⟨k+1,C::r,by omega,by go_num,by simp;omega,c,Hi (by unfold qW;simpa[hC.o,G.o]using j8.o),V⟩
     case measure=>simp[intOf];omega
   have c:=Hi (yY (w:=w) (w':=wc) (show R=none by rw[f.o];simp only[P9]at k5;simp[pq,h3,zT,k1,k2,k4,k5.1,k5.2]) m.o);have k1':(h==1)=false:=by simp[k1]
   have k2':(h==2)=false:=by simp[k2]
   have k3':(h==3)=false:=by simp[h3]
   have k4':(h==4)=false:=by simp[k4]
   have k5':(h==5)=false:=by simp only[P9]at k5;simp[k5.1]
   have k6':(h==6)=false:=by simp only[P9]at k5;simp[k5.2]
   clear f d k1 k2 h3 k4 k5;go_wp2_with fail;go_ret2;exact c.o
  .have c:Hid (R=so (some p)):=Hi (by rw[X.o,fB hlt];rfl);clear X;obtain⟨O,c1,rfl,qo,va⟩:=gN d.o;rcases p with _|⟨t,_|⟨u,r⟩⟩
   .have P:=Hi (yY (w:=w) (w':=wr) (show R=none by rw[c.o];rfl) H.o);clear c d;go_wp2_with fail;go_ret2;exact P.o
   .obtain⟨g,j4,S,F,qa⟩:=d.o.form (by simp);injection S with hA _ hcc;subst hA hcc;have c0:wr.cell? ⟨g,0,none⟩=some (eY t):=kD d.o (by simp);have P:Hid (FK R w (.returned (.tuple #[eY t,.bool true])) wr):=Hi ⟨⟨_,_,rfl,by rw[c.o];rfl,λt' e=>by rw[c.o]at e;cases e;rfl⟩,H.o⟩;clear c d;go_wp2_with fail;go_ret2;exact P.o
   .have P:=Hi (yY (w:=w) (w':=wr) (show R=none by rw[c.o];rfl) H.o);have h1':((r.length:Int)+1+1 !=1)=true:=by simp;omega
    clear c d;go_wp2_with fail;go_ret2;exact P.o
end Go.Proofs.YtgfgoaeaicefcaaGreatDoor
