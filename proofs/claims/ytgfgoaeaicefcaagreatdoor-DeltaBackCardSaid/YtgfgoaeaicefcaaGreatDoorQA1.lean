/- Part of DeltaBack. -/
import Derived.Test.YtgfgoaeaicefcaaGreatDoorQA0
import Derived.StillTailTactics
import Derived.Deep.RegionHeld3
import Derived.Deep.DrawnRows
import Derived.Lib.ItoaLen
set_option maxHeartbeats 16000000
set_option maxRecDepth 100000
set_option linter.all false
namespace Go.Proofs.YtgfgoaeaicefcaaGreatDoor
open Go.RowKit Tryz
variable {w:Wq}{B:Nat}
theorem LF {n:Int}(h:-9223372036854775808<=n/\n<=9223372036854775807):wrap64 n=n:=by unfold wrap64;omega
theorem Ew (l:List dO)(nm:Wz)(v:Value)(B:Nat)(w:Wq)(h:eX w B v l)(hB:B<=w.heap.size):Calls prog 177 #[v,.string nm] w λe w'=>e=.returned (I6 (fN l nm))/\JJ w w':=by
 obtain⟨A,cap,rfl,D,jm⟩:=aX.form h;have hf:=Hi h;have s:Hid (fN l nm=fA nm 0 (l.drop 0)):=Hi rfl;have r:=Hi (aB w.heap.size w);generalize fN l nm=R at*;clear h;go_enter func177,ntmps177;go_wp2_with fail;go_loopw [5,6,9] (λ_ _ i wr=>∃k:Nat,k<=l.length/\i=I6 k/\Hid (R=fA nm k (l.drop k))/\Hid (JJ w wr))(λ_ _ i _=>l.length-(intOf i).toNat);case atStart=>exact⟨0,aK _,rfl,s,r⟩
 case round=>
  obtain⟨k,C,rfl,g,jf⟩:=hrel;by_cases hlt:k<l.length
  .have hF:=eX.below hf.o jf.o hB;obtain⟨b,off,rfl⟩:=aX.addr hF (by omega);obtain⟨z,c,x,p,⟨q,_⟩,m⟩:=aX.el hF hlt;subst q;have u:wr.cell? ⟨b,off+k*2,none⟩=some (.string x.name):=m 0 _ rfl;have y:wr.cell? ⟨b,off+k*2+1,none⟩=some (I6 x.bits):=m 1 _ rfl;have j:Hid (R=if x.name=nm then(k:Int)else fA nm (k+1) (l.drop (k+1))):=Hi (by rw[g.o,fP p];rfl);have jk:=Hi λo=>jf.o.alloc jf.o.size o;clear g m hF jf p;by_cases he:x.name=nm
   .have d:Hid (R=k):=Hi (by rw[j.o,ax he]);have t:(x.name.toList==nm.toList)=true:=by rw[lK,aV he]
    clear j he;go_wp2_with fail;go_ret;exact⟨jL d.o.symm,jk.o _⟩
   .have d:Hid (R=fA nm (k+1) (l.drop (k+1))):=Hi (by rw[j.o,ap he]);have t:(x.name.toList==nm.toList)=false:=by rw[lK,aM he]
    clear j he;go_wp2_with fail;go_roundw;case rel=>exact⟨k+1,by omega,by go_num,d,jk.o _⟩
    case measure=>simp[intOf];omega
  .have d:Hid (R=-1):=Hi (by rw[g.o,fB hlt];rfl);clear g;go_wp2_with fail;go_ret;exact⟨jL d.o.symm,jf.o⟩
theorem oj:∀(l:List dO)(k:Nat)(x:dO),l[k]?=some x->eU (l.take (k+1))=eU (l.take k)+x.bits|[],k,x,h=>by simp at h|f::r,0,x,h=>by simp at h;subst h;simp[eU]|f::r,k+1,x,h=>by have:=oj r k x (by simpa using h);simp only[iM,eU]at this⊢;omega
theorem wh (l:List dO)(v:Value)(B:Nat)(w:Wq)(h:eX w B v l)(hB:B<=w.heap.size)(j:∀k,0<=eU (l.take k)/\eU (l.take k)<=256):Calls prog 288 #[v] w λe w'=>e=.returned (I6 (eU l))/\JJ w w':=by
 obtain⟨A,cap,rfl,I,jm⟩:=aX.form h;have hf:=Hi h;have C:Hid ((0:Int)=eU (l.take 0)):=Hi rfl;have z:=Hi (aB w.heap.size w);have j:=Hi j;clear h;go_enter func288,ntmps288;go_wp2_with fail;go_loopw [3,5,8] (λs _ i wr=>∃(k:Nat)(d:Int),k<=l.length/\i=I6 k/\s=I6 d/\Hid (d=eU (l.take k))/\Hid (JJ w wr)) (λ_ _ i _=>l.length-(intOf i).toNat);case atStart=>exact⟨0,0,aK _,rfl,rfl,C,z⟩
 case round=>
  obtain⟨k,d,H,rfl,rfl,g,jf⟩:=hrel;by_cases hlt:k<l.length
  .have hF:=eX.below hf.o jf.o hB;obtain⟨b,off,rfl⟩:=aX.addr hF (by omega);obtain⟨G,c,x,p,⟨y,_⟩,m⟩:=aX.el hF hlt;subst y;have E:wr.cell? ⟨b,off+k*2,none⟩=some (.string x.name):=m 0 _ rfl;have F:wr.cell? ⟨b,off+k*2+1,none⟩=some (I6 x.bits):=m 1 _ rfl;have q:=j.o k;have r:=j.o (k+1);rw[<-g.o]at q;rw[oj l k x p,<-g.o]at r;have D:wrap64 (d+x.bits)=d+x.bits:=LF (by omega);have u:Hid (d+x.bits=eU (l.take (k+1))):=Hi (by rw[g.o,oj l k x p]);have jk:=Hi λo=>jf.o.alloc jf.o.size o;clear g m hF jf p q r;go_wp2_with fail;go_roundw;case rel=>exact⟨k+1,_,by omega,by go_num,by first|rfl|(rw[D]),u,jk.o _⟩
   case measure=>simp[intOf];omega
  .have t:Hid (d=eU l):=Hi (by rw[g.o,ah (by omega)]);clear g;go_wp2_with fail;go_ret;exact⟨jL t.o,jf.o⟩
theorem AL (n:Int)(h0:0<=n)(h1:n<=32)(w:Wq):Calls prog 289 #[I6 n] w λe w'=>e=.returned (I6 (ix n))/\w=w':=by have H:=Hi (jd h0 h1);go_enter func289,ntmps289;go_wp2;go_ret;refine⟨jL ?_,rfl⟩;have:=H.o;unfold ix at this⊢;rw[LF (n:=2^n.toNat) (by omega),LF (by omega)]
theorem aX.take {α:Type}{size:Nat}{R:Wq->Nat->List Value->α->Prop}{len cap:Nat}{A:Option Addr}{l:List α}(h:aX size R w B (.slice A len cap) l){k:Nat}(D:k<=l.length):aX size R w B (.slice A k cap) (l.take k):=by
 obtain⟨m,H,hs,⟨F,G,E,h1,h2,h3,y⟩,z⟩:=h;injection E with p hlen jm;subst p jm;have r:(l.take k).length=k:=by rw[bv];omega
 have t:∀(n:Nat)(ds:List (List Value)),(∀c∈ds,c.length=size)->(ds.take n).flatten=ds.flatten.take (n*size):=by intro n;induction n with|zero=>intro ds _;simp|succ n ih=>intro ds v;cases ds with|nil=>simp|cons d ds=>have s:=v d (by simp);rw[iM,dh,ih ds λc e=>v c (by simp[e]),dh,List.take_append,ah (l:=d) (by rw[s,jU];omega),s,jU,IK,Nat.add_sub_cancel]
 refine⟨m.take k,by rw[bv,r];omega,λc e=>hs c (ff e),⟨A,cap,by rw[r],by omega,by omega,?_,λI=>?_⟩,λi c x e q=>?_⟩
 .rw[r,t k m hs,bv,h3];exact jl (yv _ D)
 .obtain⟨b,off,p,C,e⟩:=y (by omega);refine⟨b,off,p,C,λj u g=>e j u ?_⟩;rw[t k m hs]at g;rw[gc]at g;split at g
  .exact g
  .cases g
 .rw[gc]at e q;split at e
  .rename_i hi;rw[ax hi]at q;exact z i c x e q
  .cases e
def FJ (l:List dO)(w:Wq)(e:Ending)(w':Wq):Prop:=(∃k a:Int,e=.returned (.tuple #[I6 k,I6 a])/\if nz l=true then k=0 else k≠0/\(k=2\/l.length=0\/(0<=a/\a<l.length)))/\JJ w w'
theorem Et {l:List dO}{w':Wq}{k a:Int}(h:nz l=false)(e:k≠0)(c:k=2\/l.length=0\/(0<=a/\a<l.length))(d:JJ w w'):FJ l w (.returned (.tuple #[I6 k,I6 a])) w':=⟨⟨k,a,rfl,by rw[ap (by rw[h];simp)];exact⟨e,c⟩⟩,d⟩
theorem wj (l:List dO)(v:Value)(B:Nat)(w:Wq)(h:eX w B v l)(hB:B<=w.heap.size):Calls prog 94 #[v] w (FJ l w):=by
 obtain⟨A,cap,rfl,qf,jm⟩:=aX.form h;have hf:=Hi h;have C:=Hi (aB w.heap.size w);by_cases h12:12<l.length
 .have H:=Hi (Et (w:=w) (k:=2) (a:=0) (show nz l=false by unfold nz;rw[aM (p:=1<=l.length/\l.length<=12) (by omega)];rfl) (by decide) (Or.inl rfl) C.o);have j9:(l.length:Int)>12:=by omega
  clear h h12;go_enter func94,ntmps94;go_wp2_with fail;go_ret2;exact H.o
 by_cases h1:l.length=0
 .have H:=Hi (Et (w:=w) (k:=40) (a:=0) (show nz l=false by unfold nz;rw[aM (p:=1<=l.length/\l.length<=12) (by omega)];rfl) (by decide) (Or.inr (Or.inl h1)) C.o);have j9:¬(l.length:Int)>12:=by omega
  have S:((l.length:Int)==0)=true:=by simp[h1]
  clear h h12 h1;go_enter func94,ntmps94;go_wp2_with fail;go_ret2;exact H.o
 have X:Hid (nz l=pB l 0 0 (l.drop 0)):=Hi (by unfold nz;rw[aV (p:=1<=l.length/\l.length<=12) (by omega)];rfl);have j9:¬(l.length:Int)>12:=by omega
 have S:((l.length:Int)==0)=false:=by rw[dU];omega
 clear h h1 h12;go_enter func94,ntmps94;go_wp2_with fail;go_loopw [4,5,6,15] (λs _ _ i wr=>∃(k:Nat)(d:Int),k<=l.length/\i=I6 k/\s=I6 d/\(0<=d/\d<=256)/\Hid (nz l=pB l k d (l.drop k))/\Hid (JJ w wr)) (λ_ _ _ i _=>l.length-(intOf i).toNat);case atStart=>exact⟨0,0,aK _,rfl,rfl,by omega,X,C⟩
 case round=>
  obtain⟨k,d,V,rfl,rfl,⟨q2,qg⟩,m,jf⟩:=hrel;by_cases hlt:k<l.length
  .have hF:=eX.below hf.o jf.o hB;obtain⟨b,off,rfl⟩:=aX.addr hF (by omega);obtain⟨u,c,x,J,⟨U,K⟩,y⟩:=aX.el hF hlt;subst U;have P:wr.cell? ⟨b,off+k*2,none⟩=some (.string x.name):=y 0 _ rfl;have R:wr.cell? ⟨b,off+k*2+1,none⟩=some (I6 x.bits):=y 1 _ rfl;have g:Hid (nz l=(L9 l k d x&&pB l (k+1) (d+x.bits) (l.drop (k+1)))):=Hi (by rw[m.o,fP J];rfl);obtain⟨W,q⟩:=Jj (wr.alloc (.cells #[.string x.name,I6 x.bits] 37 (0,0)));have O:W.heap.size=wr.heap.size+1:=Jw q;have r:=Hi (show JJ w W by rw[<-q];exact jf.o.alloc jf.o.size _);have D:=Hi (show W.heap[wr.heap.size]?=some (.cells #[.string x.name,I6 x.bits] 37 (0,0))by exact Jy q);have I:=Hi (aX.take (eX.below hf.o r.o hB) V);have j:Hid (∀W',Calls prog 176 #[.string x.name] W' λe w'=>e=.returned (.bool (cZ (bs x.name)))/\w'=W'):=Hi λW'=>(O8 x.name W' (by unfold Sm at K;omega)).mono λ_ _ h=>⟨h.1,h.2.symm⟩;have F:Hid (∀W',Below w.heap.size W W'->Calls prog 177 #[.slice (some ⟨b,off,none⟩) k cap,.string x.name] W' λe w'=>e=.returned (I6 (fN (l.take k) x.name))/\JJ W' w'):=Hi λW' u=>Ew (l.take k) x.name (.slice (some ⟨b,off,none⟩) k cap) w.heap.size W' (eX.below I.o u Jq) (by have:=r.o.size;have:=u.size;omega);have L:W.cell? ⟨wr.heap.size,0,none⟩=some (.string x.name):=by simpa using aA W wr.heap.size 0 _ _ (0,0) D.o
   have E:wr.heap.size<W.heap.size:=by omega
   have M:-1<=fN (l.take k) x.name/\fN (l.take k) x.name<13:=by have:=tM (l.take k) x.name;rw[bv]at this;omega
   obtain⟨Q,hQ⟩:∃Q,Q=(cZ (bs x.name)&&!(x.name.toList==[97,110,121])&&!(x.name.toList==[110,111,110,101])&&decide (fN (l.take k) x.name<0)):=⟨_,rfl⟩;replace g:Hid (nz l=(Q&&decide (1<=x.bits/\x.bits<=32/\d+x.bits<=256)&&pB l (k+1) (d+x.bits) (l.drop (k+1)))):=Hi (by rw[g.o,hQ];rfl);replace hQ:=Hi hQ;have hkc:k<=cap:=by omega
   replace O:=Hi O;clear m y hF I K J;go_upto_region 9 with fail;clear q P R;go_cut[42] (λv Z=>v=.bool (!Q)/\Hid (JJ W Z));case first=>
    generalize fN (l.take k) x.name=fd at*;obtain⟨hd1,hd2⟩:=M;cases h1:cZ (bs x.name)
    .rw[h1]at j hQ;obtain rfl:Q=false:=by rw[hQ.o];rfl
     clear h1 hQ;go_quiet(exact du (j.o _));go_wp2_with fail;go_meet;exact⟨rfl,Hi (ar Jz _)⟩
    rw[h1]at j hQ;cases h2:x.name.toList==[97,110,121];case true=>
     rw[h2]at hQ;obtain rfl:Q=false:=by rw[hQ.o];rfl
     clear h1 hQ;go_quiet(exact du (j.o _));go_wp2_with fail;go_meet;exact⟨rfl,Hi (ar Jz _)⟩
    rw[h2]at hQ;cases h3:x.name.toList==[110,111,110,101];case true=>
     rw[h3]at hQ;obtain rfl:Q=false:=by rw[hQ.o];rfl
     clear h1 hQ;go_quiet(exact du (j.o _));go_wp2_with fail;go_meet;exact⟨rfl,Hi (ar Jz _)⟩
    rw[h3]at hQ;have H:=Hi (show(!Q)=decide (0<=fd)by rw[hQ.o];by_cases h0:fd<0<;>simp[h0]<;>omega);clear h1 hQ;go_region_held3 (λW'=>W'.cell? ⟨wr.heap.size,0,none⟩=some (.string x.name)) (first|exact hHeld|go_keep|exact(N.cell (p:=⟨wr.heap.size,0,none⟩) E).t L)((first|(go_at_call 177;refine(F.o _ ((ar Jz 1))).mono ?_;rintro e wz ⟨rfl,N⟩)|(go_at_call 176;refine(j.o _).mono ?_;rintro e wz ⟨rfl,rfl⟩)));go_wp2_with fail;go_meet;exact⟨by rw[H.o],Hi ((ar Jz 1).t N)⟩
   case rest=>
    obtain⟨rfl,z⟩:=hcut;have T:=Hi ((z.o.block _ E).t D.o);have q1:wc.cell? ⟨wr.heap.size,1,none⟩=some (I6 x.bits):=by simpa using aA wc wr.heap.size 1 _ _ (0,0) T.o
    have G:=Hi (JK r.o z.o);clear L E M j F z D r jf;have jy:Hid (nz l=false->FJ l w (.returned (.tuple #[I6 40,I6 k])) wc):=Hi λh=>Et h (by decide) (Or.inr (Or.inr ⟨by omega,by omega⟩)) G.o;cases Q
    .have H:=Hi (jy.o (by rw[g.o];rfl));clear g;go_wp2_with fail;go_ret2;exact H.o
    by_cases b1:x.bits<1
    .have H:=Hi (jy.o (by rw[g.o,aM (p:=1<=x.bits/\_) (by omega)];rfl));clear g;go_wp2_with fail;go_ret2;exact H.o
    by_cases b2:x.bits>32
    .have H:=Hi (jy.o (by rw[g.o,aM (p:=1<=x.bits/\_) (by omega)];rfl));clear g;go_wp2_with fail;go_ret2;exact H.o
    have Y:wrap64 (d+x.bits)=d+x.bits:=LF (by omega);by_cases b3:d+x.bits>256
    .have H:=Hi (jy.o (by rw[g.o,aM (p:=1<=x.bits/\_) (by omega)];rfl));clear g;go_wp2_with fail;go_ret2;exact H.o
    have t:Hid (nz l=pB l (k+1) (d+x.bits) (l.drop (k+1))):=Hi (by rw[g.o,aV (p:=1<=x.bits/\_) (by omega)];rfl);clear g;go_wp2_with fail;go_roundw;case rel=>exact⟨k+1,_,by omega,by go_num,by first|rfl|(rw[Y]),by omega,t,G⟩
    case measure=>simp[intOf];omega
  .have t:Hid (nz l=true):=Hi (by rw[m.o,fB hlt];rfl);clear m;go_wp2_with fail;go_ret2;exact⟨⟨0,0,rfl,by rw[ax t.o]⟩,jf.o⟩
end Go.Proofs.YtgfgoaeaicefcaaGreatDoor
namespace Go.Proofs.YtgfgoaeaicefcaaGreatDoor
open Go.RowKit Go.Maps
variable {w:Wq}{B:Nat}
theorem rz:Keyed Tryz.prog 9:=string_keyed Tryz.underlying9
theorem LN (w:Wq):(zeroValue 3).run Tryz.prog w=.ok (I6 0) w:=by kernel_rfl
theorem BH {s:Wz}(hs:s.size<=1000000000000000):keyOf Tryz.prog 9 (.string s)=some (.string s.data.toList):=WideMaps.keyOf_string_mk Tryz.underlying9 (by unfold maxLen;omega)
theorem xM {a b:Wz}(h:a≠b):Lit.string a.data.toList≠Lit.string b.data.toList:=λe=>h (WideShapes.bytes_inj (by injection e))
theorem iQ {w':Wq}{b:Nat}(N:Nat)(h:w.grownBy w' (some b))(hN:N<=w.heap.size)(c:N<=b:=by omega):Below N w w':=(aB N w).grown h hN (λk d=>by cases d;exact c)
abbrev i8:=Wz->Option Int
def upd (f:i8)(s:Wz)(c:Int):i8:=λt=>if t=s then some c else f t
def DE (f:i8)(s:Wz):i8:=λt=>if t=s then none else f t
def mA:i8:=λ_=>none
abbrev Rc (w:Wq)(b n:Nat)(D:DataW Unit):Prop:=w.ownsMap Tryz.prog 9 (plainElem Tryz.prog 3) b n D
def ye (D:DataW Unit)(f:i8):Prop:=∀s:Wz,Maps.has D (.string s.data.toList)=(f s).isSome/\∀c,f s=some c->∀z,D.atKey (.string s.data.toList) z=.lit (.int .i64 c)
theorem ye.put {D:DataW Unit}{f:i8}(h:ye D f)(i:IsMap D)(s:Wz)(c:Int):ye (D.put (.string s.data.toList) (.lit (.int .i64 c))) (upd f s c):=λt=>by
 unfold upd;by_cases e:t=s
 .subst e;rw[ax rfl,Maps.has_put_same i (show WideAt.IsKeyLit (.string _)from trivial)];refine⟨rfl,λd g z=>?_⟩;injection g with g;rw[Maps.atKey_put_same i (show WideAt.IsKeyLit (.string _)from trivial),g]
 .rw[ap e,Maps.has_put_other (xM e)];exact⟨(h t).1,λd g z=>by rw[Maps.atKey_put_other (xM e)];exact(h t).2 d g z⟩
theorem ye.del {D:DataW Unit}{f:i8}(h:ye D f)(s:Wz):ye (D.del (.string s.data.toList)) (DE f s):=λt=>by
 unfold DE;by_cases e:t=s
 .subst e;rw[ax rfl,Maps.has_del_same];exact⟨rfl,λd c=>by cases c⟩
 .rw[ap e,Maps.has_del_other (xM e)];exact⟨(h t).1,λd c z=>by rw[Maps.atKey_del_other (xM e)];exact(h t).2 d c z⟩
def ej (w:Wq)(b n:Nat)(f:i8):Prop:=∃D,Rc w b n D/\ye D f
theorem ej.new (w:Wq):ej (w.alloc (.map #[] 0)) w.heap.size 0 mA:=⟨_,World.ownsMap_made (H:=Unit) w _ _ _,λ_=>⟨rfl,λ_ h=>by cases h⟩⟩
section
variable {w w':Wq} {b n:Nat} {f:i8}
theorem ej.lt (h:ej w b n f):b<w.heap.size:=let⟨_,h,_⟩:=h;h.lt
theorem ej.kept {row:Option Nat}(h:ej w b n f)(c:w.grownBy w' row)(d:some b≠row):ej w' b n f:=let⟨D,h,t⟩:=h;⟨D,h.kept c d,t⟩
theorem ej.below (h:ej w b n f)(d:Below B w w')(hB:b<B):ej w' b n f:=by obtain⟨D,⟨es,e,h1,h2,h3,c⟩,t⟩:=h;exact⟨D,⟨es,e,(d.block _ hB).t h1,h2,h3,c⟩,t⟩
theorem ej.mono (h:ej w b n f){m:Nat}(c:n<=m):ej w b m f:=let⟨D,h,t⟩:=h;⟨D,h.mono c,t⟩
theorem ej.alloc (h:ej w b n f)(o:Obj):ej (w.alloc o) b n f:=let⟨D,h,t⟩:=h;⟨D,h.alloc o,t⟩
variable {ops:Array Oper} {rest:List Oper} {o:Oper} {a:Act} {Q:Exit→Act→Wq→Prop}
theorem gj (h:ej w b n f)(j:o.guard=none)(m x:Operand)(p:o.op=Op.lookup 154 m x true)(k:a.eval m=.map (some b))(s:Wz)(q:a.eval x=.string s)(hs:s.size<=1000000000000000)(g:∀c:Int,(∀d,f s=some d->c=d)->wpList Tryz.prog ops Q rest (a.put o.dst (.tuple #[I6 c,.bool (f s).isSome])) w):wpList Tryz.prog ops Q (o::rest) a w:=by obtain⟨D,h,t⟩:=h;refine wpList_lookup_own_ok_int w j m x 154 p 9 3 .i64 rz Tryz.underlying154 Tryz.underlying3 (LN _) b n D k h _ _ q (BH hs) λc e _=>?_;rw[(t s).1];refine g c λd i=>?_;rw[(t s).2 d i]at e;injection e with e;injection e with _ e;exact e.symm
theorem Fr (h:ej w b n f)(i:o.guard=none)(m x v:Operand)(k:o.op=Op.mapUpdate 154 m x v)(j:a.eval m=.map (some b))(s:Wz)(q:a.eval x=.string s)(hs:s.size<=1000000000000000)(r:n<=1000000000000000)(c:Int)(p:a.eval v=I6 c)(g:-9223372036854775808<=c/\c<=9223372036854775807)(e:∀w',ej w' b (n+1) (upd f s c)->w.grownBy w' (some b)->wpList Tryz.prog ops Q rest (a.put o.dst undef) w'):wpList Tryz.prog ops Q (o::rest) a w:=by
 obtain⟨D,h,t⟩:=h;exact wpList_mapUpdate_own w i m x v 154 k 9 3 rz Tryz.underlying154 (plainElem Tryz.prog 3) b n D j h (by unfold maxLen;omega) _ _ _ q p (BH hs) (.lit (.int .i64 c)) []
  (plainElem_int Tryz.underlying3 (K1 g)) λw' d jn=>e w' ⟨_,d,t.put h.isMap s c⟩ jn
theorem MF (h:ej w b n f)(e:o.guard=none)(m x:Operand)(i:o.op=Op.call {callee:=Callee.builtin Builtin.delete,args:=#[m,x],argTypes:=#[154,9]})(g:a.eval m=.map (some b))(s:Wz)(j:a.eval x=.string s)(hs:s.size<=1000000000000000)(d:∀w',ej w' b n (DE f s)->w.grownBy w' (some b)->wpList Tryz.prog ops Q rest (a.put o.dst (.tuple #[])) w'):wpList Tryz.prog ops Q (o::rest) a w:=by obtain⟨D,h,t⟩:=h;exact wpList_delete_own w e m x 154 9 i 3 rz Tryz.underlying154 (plainElem Tryz.prog 3) b n D g h _ _ j (BH hs) λw' c jn=>d w' ⟨_,c,t.del s⟩ jn.grown
end
def iS (w:Wq)(b n:Nat)(l:List Wz):Prop:=∃g,ej w b n g/\∀s,(g s).isSome=l.any λq=>decide (q=s)
theorem iS.new (w:Wq):iS (w.alloc (.map #[] 0)) w.heap.size 0 []:=⟨_,ej.new w,λ_=>rfl⟩
section
variable {w w':Wq} {b n:Nat} {l:List Wz}
theorem iS.lt (h:iS w b n l):b<w.heap.size:=let⟨_,h,_⟩:=h;h.lt
theorem iS.below (h:iS w b n l)(c:Below B w w')(hB:b<B):iS w' b n l:=let⟨g,h,t⟩:=h;⟨g,h.below c hB,t⟩
theorem iS.kept {row:Option Nat}(h:iS w b n l)(c:w.grownBy w' row)(d:some b≠row):iS w' b n l:=let⟨g,h,t⟩:=h;⟨g,h.kept c d,t⟩
variable {ops:Array Oper} {rest:List Oper} {o:Oper} {a:Act} {Q:Exit→Act→Wq→Prop}
theorem jX (h:iS w b n l)(e:o.guard=none)(m x:Operand)(j:o.op=Op.lookup 154 m x true)(i:a.eval m=.map (some b))(s:Wz)(k:a.eval x=.string s)(hs:s.size<=1000000000000000)(d:∀c:Int,wpList Tryz.prog ops Q rest (a.put o.dst (.tuple #[I6 c,.bool (l.any λq=>decide (q=s))])) w):wpList Tryz.prog ops Q (o::rest) a w:=by obtain⟨g,h,t⟩:=h;exact gj h e m x j i s k hs λc _=>by rw[t s];exact d c
theorem sc (h:iS w b n l)(k:o.guard=none)(m x v:Operand)(r:o.op=Op.mapUpdate 154 m x v)(p:a.eval m=.map (some b))(s:Wz)(z:a.eval x=.string s)(hs:s.size<=1000000000000000)(q:n<=1000000000000000)(c:Int)(y:a.eval v=I6 c)(j:-9223372036854775808<=c/\c<=9223372036854775807)(i:∀w',iS w' b (n+1) (l++[s])->w.grownBy w' (some b)->wpList Tryz.prog ops Q rest (a.put o.dst undef) w'):wpList Tryz.prog ops Q (o::rest) a w:=by
 obtain⟨g,h,t⟩:=h;refine Fr h k m x v r p s z hs q c y j λw' d jn=>i w' ⟨_,d,λu=>?_⟩ jn;rw[List.any_append,<-t u];unfold upd;by_cases e:u=s
 .subst e;simp
 .rw[ap e];simp[show¬s=u from λh=>e h.symm]
end
end Go.Proofs.YtgfgoaeaicefcaaGreatDoor
namespace Go.Proofs.YtgfgoaeaicefcaaGreatDoor
open Go.RowKit Tryz
variable {w:Wq}{B:Nat}
def mS (f:i8)(n:Nat)(s:Wz)(c:Bool):Bool:=match f s with|some k=>decide (k<(n:Int))==c|none=>false
theorem Jg (f:i8)(n j e cap:Nat)(A:Option Addr)(q t u r v p vb:Value)(s:Wz)(d:Bool)(w:Wq)(g:ej w j n f)(hs:Sm s):Calls prog 247 #[.agg #[q,t,.slice A e cap,u,r,v,p,vb,.map (some j)],.string s,.bool d] w (jH (mS f e s d) w):=by
 have g:=Hi g;have m:s.size<=1000000000000000:=by unfold Sm at hs;omega
 have h:=Hi λo=>(aB w.heap.size w).alloc Jq o;cases hf:f s with|none=>have H:=Hi (show mS f e s d=false by unfold mS;rw[hf]);have hf:=Hi hf;go_enter func247,ntmps247;go_wp2_with(at_lookup;refine gj (g.o.alloc _) rfl _ _ rfl rfl s rfl m ?_;intro c _;rw[hf.o]);go_ret;exact eB H.o (by decide) (h.o _)|some k=>
  have H:=Hi (show mS f e s d=(decide (k<(e:Int))==d)by unfold mS;rw[hf]);have hf:=Hi hf;go_enter func247,ntmps247;go_wp2_with(at_lookup;refine gj (g.o.alloc _) rfl _ _ rfl rfl s rfl m ?_;intro c i;obtain rfl:=i k hf.o;clear i;rw[hf.o]);all_goals(go_ret)
  .exact eB (by rw[H.o];revert‹(!_)=true›;cases(decide (c<(e:Int))==d)<;>simp) (by decide) (h.o _)
  .exact tV (by rw[H.o];revert‹(!_)=false›;cases(decide (c<(e:Int))==d)<;>simp) (h.o _)
def eE (f:i8)(n:Nat)(c:Bool):List Wz->List Wz->Bool|_,[]=>true|seen,s::r=>mS f n s c&&!(seen.any λq=>decide (q=s))&&eE f n c (seen++[s]) r
theorem ek {α:Type}{l:List α}{k:Nat}{x:α}(h:l[k]?=some x):l.take (k+1)=l.take k++[x]:=by rw[ep,h];rfl
theorem Fs (f:i8)(n y d cap:Nat)(A:Option Addr)(I K L J M H vb v:Value)(l:List Wz)(g:Bool)(B:Nat)(w:Wq)(s:ej w y n f)(E:dk w B v l)(hB:B<=w.heap.size):Calls prog 245 #[.agg #[I,K,.slice A d cap,L,J,M,H,vb,.map (some y)],v,.bool g] w (jH (eE f d g [] l) w):=by
 obtain⟨A1,j3,rfl,qf,jm⟩:=aX.form E;have V:Hid (eE f d g [] l=eE f d g (l.take 0) (l.drop 0)):=Hi rfl;generalize eE f d g [] l=R at*;obtain⟨j,G⟩:=Jj (w.alloc (.cells #[I,K,.slice A d cap,L,J,M,H,vb,.map (some y)] 158 (0,0)));have O:Hid (j.heap.size=w.heap.size+1):=Hi (by rw[<-G];simp);have U:Hid (JJ w j):=Hi (Jk G);have T:Hid (j.heap[w.heap.size]?=some (.cells #[I,K,.slice A d cap,L,J,M,H,vb,.map (some y)] 158 (0,0))):=Hi (Jy G);have vf:Hid (iS (j.alloc (.map #[] 0)) (w.heap.size+1) 0 (l.take 0)):=Hi (by have:=iS.new j;rw[O.o]at this;exact this);have W:Hid (Below (w.heap.size+1) j (j.alloc (.map #[] 0))):=Hi (Jz.alloc (by rw[O.o];exact al _) _);have vs:=O.o;have vy:=@zC prog;replace s:=Hi s;replace E:=Hi E;go_enter func245,ntmps245;go_wp2_with fail;clear G vy vs;go_loopw [6,8,9,10,11,12,16] (λ_ _ _ _ _ _ i wr=>∃k:Nat,k<=l.length/\i=I6 k/\Hid (R=eE f d g (l.take k) (l.drop k))/\Hid (iS wr (w.heap.size+1) k (l.take k))/\Hid (Below (w.heap.size+1) j wr))(λ_ _ _ _ _ _ i _=>l.length-(intOf i).toNat);case atStart=>exact⟨0,aK _,rfl,V,vf,W⟩
 case round=>
  obtain⟨k,hk,rfl,C,D,jf⟩:=hrel;clear V vf W;have t:=Hi (U.o.t (jf.o.mono (by omega)));by_cases hlt:k<l.length
  .have N:=dk.below E.o t.o hB;obtain⟨b,off,rfl⟩:=aX.addr N (by omega);obtain⟨hb,x,F,j4,e0⟩:=fx N hlt;have X:=Hi (s.o.below t.o s.o.lt);have u:=Hi (Jg f n y d cap A I K L J M H vb x g wr X.o (by unfold Sm;omega));have Z:=Hi ((jf.o.block w.heap.size (by omega)).t T.o);have h:Hid (R=(mS f d x g&&!((l.take k).any λq=>decide (q=x))&&eE f d g (l.take (k+1)) (l.drop (k+1)))):=Hi (by rw[C.o,fP F,ek F];rfl);obtain⟨x0,x1,x2,x3,x4,x5,x6,x7,x8⟩:=gY Z.o;have z:Hid (w.heap.size+1<wr.heap.size):=Hi D.o.lt;have P:x.size<=1000000000000000:=by omega
   clear C X Z N T U s;cases h1:mS f d x g
   .rw[h1]at u h;have p:Hid (R=false):=Hi (by rw[h.o];rfl);clear h D;go_wp2_with(go_at_call 247;refine u.o.mono ?_;intro e w2 r;obtain⟨kk,rfl,vt,hk1,m⟩:=pJ r);go_ret;exact eB p.o vt (t.o.t (m.mono (by have:=z.o;omega)))
   rw[h1]at u h;cases h2:(l.take k).any λq=>decide (q=x);case true=>have p:Hid (R=false):=Hi (by rw[h.o,h2];rfl);replace h2:=Hi h2;clear h;go_wp2_with(first|(go_at_call 247;refine u.o.mono ?_;intro e w2 r;obtain⟨rfl,m⟩:=gm r;clear r)|(at_lookup;refine jX (D.o.below m (by have:=z.o;omega)) rfl _ _ rfl rfl x rfl P ?_;intro c;rw[h2.o]));go_ret;exact eB p.o (by decide) (t.o.t (m.mono (by have:=z.o;omega)))
   have p:Hid (R=eE f d g (l.take (k+1)) (l.drop (k+1))):=Hi (by rw[h.o,h2];rfl);have ht:=Hi (ek F);replace h2:=Hi h2;have vv:k<=1000000000000000:=by omega
   clear h F;go_wp2_with(first|(go_at_call 247;refine u.o.mono ?_;intro e w2 r;obtain⟨rfl,m⟩:=gm r;clear r;have S:=Hi (D.o.below m (by have:=z.o;omega));have qu:=Hi (jf.o.t (m.mono (by have:=z.o;omega)));clear m)|(at_lookup;refine jX S.o rfl _ _ rfl rfl x rfl P ?_;intro c;rw[h2.o])|(at_mapUpdate;refine sc S.o rfl _ _ _ rfl rfl x rfl P vv _ rfl (by omega) ?_;intro w3 vl Y;rw[<-ht.o]at vl;have qw:=Hi (qu.o.t (iQ _ Y (by have:=S.o.lt;omega)));clear Y));go_roundw;case rel=>exact⟨k+1,by omega,by go_num,p,Hi vl,qw⟩
   case measure=>simp[intOf];omega
  .have p:Hid (R=true):=Hi (by rw[C.o,fB hlt];rfl);clear C;go_wp2_with fail;go_ret;exact tV p.o t.o
theorem Jl (l:List dO)(nm:Wz)(v:Value)(B:Nat)(w:Wq)(h:eX w B v l)(hB:B<=w.heap.size):Calls prog 96 #[v,.string nm] w λe w'=>e=.returned (I6 (fN l nm))/\JJ w w':=by
 obtain⟨A,cap,rfl,D,jm⟩:=aX.form h;have hf:=Hi h;have s:Hid (fN l nm=fA nm 0 (l.drop 0)):=Hi rfl;have r:=Hi (aB w.heap.size w);generalize fN l nm=R at*;clear h;go_enter func96,ntmps96;go_wp2_with fail;go_loopw [5,6,9] (λ_ _ i wr=>∃k:Nat,k<=l.length/\i=I6 k/\Hid (R=fA nm k (l.drop k))/\Hid (JJ w wr))(λ_ _ i _=>l.length-(intOf i).toNat);case atStart=>exact⟨0,aK _,rfl,s,r⟩
 case round=>
  obtain⟨k,C,rfl,g,jf⟩:=hrel;by_cases hlt:k<l.length
  .have hF:=eX.below hf.o jf.o hB;obtain⟨b,off,rfl⟩:=aX.addr hF (by omega);obtain⟨z,c,x,p,⟨q,_⟩,m⟩:=aX.el hF hlt;subst q;have u:wr.cell? ⟨b,off+k*2,none⟩=some (.string x.name):=m 0 _ rfl;have y:wr.cell? ⟨b,off+k*2+1,none⟩=some (I6 x.bits):=m 1 _ rfl;have j:Hid (R=if x.name=nm then(k:Int)else fA nm (k+1) (l.drop (k+1))):=Hi (by rw[g.o,fP p];rfl);have jk:=Hi λo=>jf.o.alloc jf.o.size o;clear g m hF jf p;by_cases he:x.name=nm
   .have d:Hid (R=k):=Hi (by rw[j.o,ax he]);have t:(x.name.toList==nm.toList)=true:=by rw[lK,aV he]
    clear j he;go_wp2_with fail;go_ret;exact⟨jL d.o.symm,jk.o _⟩
   .have d:Hid (R=fA nm (k+1) (l.drop (k+1))):=Hi (by rw[j.o,ap he]);have t:(x.name.toList==nm.toList)=false:=by rw[lK,aM he]
    clear j he;go_wp2_with fail;go_roundw;case rel=>exact⟨k+1,by omega,by go_num,d,jk.o _⟩
    case measure=>simp[intOf];omega
  .have d:Hid (R=-1):=Hi (by rw[g.o,fB hlt];rfl);clear g;go_wp2_with fail;go_ret;exact⟨jL d.o.symm,jf.o⟩
theorem dk.len {v:Value}{l:List Wz}(h:dk w B v l):l.length<=140737488355328:=by obtain⟨_,_,_,_,h⟩:=aX.form h;exact h.2
theorem Jh (c lo:List Wz)(k:Nat)(q A C p r m vb:Value)(B:Nat)(w:Wq)(hi:dk w B A c)(d:dk w B C lo)(hB:B<=w.heap.size)(y:k<c.length+lo.length):Calls prog 98 #[.agg #[q,A,C,p,r,m,vb],I6 k] w λe w'=>∃x,e=.returned (.string x)/\(c++lo)[k]?=some x/\x.size<=140737488355328/\JJ w w':=by
 have M:=hi.len;have N:=d.len;obtain⟨s,z,rfl,I,F⟩:=aX.form hi;obtain⟨t,j8,rfl,J,G⟩:=aX.form d;obtain⟨W,u⟩:=Jj (w.alloc (.cells #[q,.slice s c.length z,.slice t lo.length j8,p,r,m,vb] 42 (0,0)));have h:=Hi (show JJ w W by exact Jk u);have v:W.heap[w.heap.size]?=some (.cells #[q,.slice s c.length z,.slice t lo.length j8,p,r,m,vb] 42 (0,0)):=Jy u;obtain⟨_,P,R,_,_,_,_⟩:=au v;replace hi:=dk.below hi h.o hB;replace d:=dk.below d h.o hB;clear v;by_cases hlt:k<c.length
 .obtain⟨b,off,rfl⟩:=aX.addr hi (by omega);obtain⟨E,x,g,i,D⟩:=fx hi hlt;have H:=Hi (show(c++lo)[k]?=some x by rw[ee hlt];exact g);have L:(k:Int)<(c.length:Int):=by omega
  clear hi d g y hlt;go_enter func98,ntmps98;go_wp2_with fail;go_ret;exact⟨x,rfl,H.o,i,h.o⟩
 .obtain⟨b,off,rfl⟩:=aX.addr d (by omega);obtain⟨j,rfl⟩:∃j,k=c.length+j:=⟨k-c.length,by omega⟩;obtain⟨E,x,g,i,D⟩:=fx d (k:=j) (by omega);have H:=Hi (show(c++lo)[c.length+j]?=some x by rw[dy (by omega),eu];exact g);have K:j<lo.length:=by omega
  have O:wrap64 (((c.length+j:Nat):Int)-(c.length:Int))=(j:Int):=by rw[LF (by omega)];omega
  clear hi d g y hlt;go_enter func98,ntmps98;go_wp2_with fail;go_ret;exact⟨x,rfl,H.o,i,h.o⟩
inductive bJ where|leaf (b:Bool)|test (t:eF)|not (x:bJ)|and (l r:bJ)|or (l r:bJ)
def zT (t:eF):Bool:=decide (t.field=ByteArray.empty/\t.op=0/\t.form=0/\t.lo=0/\t.hi=0/\t.len=0/\t.pat=ByteArray.empty)
def pq (p:List bJ)(n:de):Option (List bJ):=if n.kind≠3/\zT n.test=false then none else if n.kind=1 then some (.leaf true::p)else if n.kind=2 then some (.leaf false::p)else if n.kind=3 then some (.test n.test::p)else if n.kind=4 then match p with|x::r=>some (.not x::r)|[]=>none else if n.kind=5 then match p with|b::a::r=>some (.and a b::r)|_=>none else if n.kind=6 then match p with|b::a::r=>some (.or a b::r)|_=>none else none
def jY:List bJ->List de->Option (List bJ)|p,[]=>some p|p,n::r=>match pq p n with|some q=>jY q r|none=>none
def so:Option (List bJ)->Option bJ|some [t]=>some t|_=>none
def jT (l:List de):Option bJ:=so (jY [] l)
def bJ.isOr:bJ->Bool|.or _ _=>true|_=>false
def bJ.joined:bJ->Bool|.and _ _=>true|.or _ _=>true|_=>false
def bJ.nest:bJ->Nat|.leaf _=>0|.test _=>0|.not x=>x.nest+(if x.joined then 2 else 1)|.and l r=>max (l.nest+l.isOr.toNat) (r.nest+r.joined.toNat)|.or l r=>max l.nest (r.nest+r.isOr.toNat)
def bJ.sz:bJ->Nat|.leaf _=>1|.test _=>1|.not x=>x.sz+1|.and l r=>l.sz+r.sz+1|.or l r=>l.sz+r.sz+1
def ro:List bJ->Nat|[]=>0|t::r=>t.sz+ro r
theorem Iz {p q:List bJ}{n:de}(h:pq p n=some q):ro q=ro p+1/\q.length<=p.length+1:=by
 unfold pq at h;repeat' split at h
 all_goals first|(cases h;done)|(injection h with h;subst h;simp only[ro,bJ.sz,aD];omega)
theorem Ca:∀{l:List de}{p q:List bJ},jY p l=some q->ro q=ro p+l.length
 |[],p,q,h=>by unfold jY at h;injection h with h;subst h;simp|n::r,p,q,h=>by
  unfold jY at h;split at h
  .rename_i e;have:=Iz e;have:=Ca h;simp only[aD];omega
  .cases h
theorem rD {l:List de}{t:bJ}(h:jT l=some t):t.sz=l.length:=by
 unfold jT so at h;split at h
 .rename_i u e;injection h with h;subst h;have:=Ca e;simpa[ro]using this
 .cases h
theorem bJ.nest_sz:∀t:bJ,t.nest+2<=2*t.sz|.leaf _=>by simp[nest,sz]|.test _=>by simp[nest,sz]|.not x=>by have:=x.nest_sz;simp only[nest,sz];split<;>omega|.and l r=>by have:=l.nest_sz;have:=r.nest_sz;have h1:=sO l.isOr;have h2:=sO r.joined;simp only[nest,sz];omega|.or l r=>by have:=l.nest_sz;have:=r.nest_sz;have h2:=sO r.isOr;simp only[nest,sz];omega
def bJ.All (P:eF->Prop):bJ->Prop|.leaf _=>True|.test t=>P t|.not x=>x.All P|.and l r=>l.All P/\r.All P|.or l r=>l.All P/\r.All P
theorem Gm {P:eF->Prop}{p q:List bJ}{n:de}(h:pq p n=some q)(c:∀t∈p,t.All P)(d:n.kind=3->P n.test):∀t∈q,t.All P:=by
 unfold pq at h;repeat' split at h
 all_goals first
  |(cases h;done)
  | (injection h with h;subst h;intro t ht;simp only[dN]at ht c;rcases ht with rfl|ht
     .first|(simp[bJ.All];done)|exact d (by assumption)|(simp only[bJ.All];first|exact c _ (by simp)|exact⟨c _ (by simp),c _ (by simp)⟩)
     .exact c _ (by simp[ht]))
theorem zj {P:eF->Prop}:∀{l:List de}{p q:List bJ},jY p l=some q->(∀t∈p,t.All P)->(∀n∈l,n.kind=3->P n.test)->∀t∈q,t.All P
 |[],p,q,h,hp,_=>by unfold jY at h;injection h with h;subst h;exact hp|n::r,p,q,h,hp,hl=>by
  unfold jY at h;split at h
  .rename_i e;exact zj h (Gm e hp (hl n (by simp))) λm c=>hl m (by simp[c])
  .cases h
theorem mm {P:eF->Prop}{l:List de}{t:bJ}(h:jT l=some t)(c:∀n∈l,n.kind=3->P n.test):t.All P:=by
 unfold jT so at h;split at h
 .rename_i u e;injection h with h;subst h;exact zj e (by simp) c _ (by simp)
 .cases h
def ba (l:bM):Wz:=⟨l.toArray⟩
def eT (n:Int):Wz:=⟨(Lib.itoa n).toArray⟩
def gE (v:Int):bM:=Lib.itoa (v/16777216%256)++[46]++Lib.itoa (v/65536%256)++[46]++Lib.itoa (v/256%256)++[46]++Lib.itoa (v%256)
def ez (v:Int):Wz:=if v<65536 then eT v else ba (gE v)
def yt (op:Int):Wz:=if op=1 then ba [61]else if op=2 then ba [33,61]else if op=3 then ba [60]else if op=4 then ba [60,61]else if op=5 then ba [62]else if op=6 then ba [62,61]else ba []
def tF (t:eF):Wz:=t.field++((ba [32]++yt t.op)++ba [32])
def oI (t:eF):Wz:=if t.form=2 then((tF t++ba (gE t.lo))++ba [47])++ez t.len else if t.form=3 then((tF t++ez t.lo)++ba [46,46])++ez t.hi else if t.form=4 then(tF t++ba [37])++t.pat else tF t++ez t.lo
def zM (s:Wz)(b:Bool):Wz:=if b then(ba [40]++s)++ba [41]else s
def bJ.text:bJ->Wz|.leaf b=>if b then ba [97,110,121]else ba [110,111,110,101]|.test t=>oI t|.not x=>ba [33]++zM x.text x.joined|.and l r=>(zM l.text l.isOr++ba [32,38,32])++zM r.text r.joined|.or l r=>(l.text++ba [32,124,32])++zM r.text r.isOr
def gi (l:List de):Wz:=match jT l with|some t=>t.text|none=>ba []
theorem bn (l:bM):(ba l).size=l.length:=rfl
theorem rx:∀(k u:Nat),u<10^(k+1)->Lib.nDigits u<=k+1
 |0,u,h=>by rw[Lib.nDigits_small (by simpa using h)];exact al _|k+1,u,h=>by
  by_cases h1:u<10
  .rw[Lib.nDigits_small h1];omega
  .rw[Lib.nDigits_big h1];have:=rx k (u/10) (by rw[QH]at h;omega);omega
theorem jO {n:Int}(h0:0<=n)(k:Nat)(h:n.toNat<10^(k+1)):(Lib.itoa n).length<=k+1:=by unfold Lib.itoa;rw[ap (by omega),Lib.decDigits_length];exact rx k _ h
theorem p9 {v:Int}:(gE v).length<=15:=by have h1:=jO (n:=v/16777216%256) (by omega) 2 (by omega);have h2:=jO (n:=v/65536%256) (by omega) 2 (by omega);have h3:=jO (n:=v/256%256) (by omega) 2 (by omega);have c:=jO (n:=v%256) (by omega) 2 (by omega);unfold gE;simp only[aC,aD,aL];omega
theorem i4 {v:Int}(h0:0<=v):(ez v).size<=15:=by
 unfold ez;split
 .have:=jO h0 4 (by omega);show(Lib.itoa v).length<=15;omega
 .exact p9
theorem JO (op:Int):(yt op).size<=2:=by
 unfold yt;repeat' split
 all_goals simp[bn]
structure sJ (t:eF):Prop where
 nm:cZ (bs t.field)=true
 nany:t.field≠FE
 nnone:t.field≠xk
 op:1<=t.op/\t.op<=6
 form:1<=t.form/\t.form<=4
 two:t.op<=2\/t.form=1
 lo:(0<=t.lo/\t.lo<=4294967295)/\(t.form=4->t.lo=0)hi:(0<=t.hi/\t.hi<=4294967295)/\(t.form≠3->t.hi=0)len:(0<=t.len/\t.len<=32)/\(t.form≠2->t.len=0)pat:t.form≠4->t.pat.size=0
 pat4:t.form=4->(1<=t.pat.size/\t.pat.size<=32)/\mZ t.pat=true
theorem mO {s:Wz}(h:cZ (bs s)=true):1<=s.size/\s.size<=24:=by
 constructor
 .refine B2 λh0=>?_;rw[jD s (Or.inl (by omega))]at h;cases h
 .refine kg λh0=>?_;rw[jD s (Or.inr (by omega))]at h;cases h
theorem KA {t:eF}(h:sJ t):(tF t).size<=28:=by have:=mO h.nm;have:=JO t.op;unfold tF;simp only[aJ,bn,aD,aL];omega
theorem Ip {t:eF}(h:sJ t):(oI t).size<=61:=by
 have h1:=KA h;have h2:=i4 h.lo.1.1;have h3:=i4 h.hi.1.1;have c:=i4 h.len.1.1;have d:=p9 (v:=t.lo);have e:t.pat.size<=32:=by
  by_cases hf:t.form=4
  .exact(h.pat4 hf).1.2
  .rw[h.pat hf];omega
 unfold oI;repeat' split
 all_goals(simp only[aJ,bn,aD,aL];omega)
theorem qS (s:Wz)(b:Bool):(zM s b).size<=s.size+2:=by
 unfold zM;split
 .simp only[aJ,bn,aD,aL];omega
 .omega
theorem bJ.text_le:∀{t:bJ},t.All sJ->t.text.size<=68*t.sz|.leaf b,_=>by unfold text sz;split<;>simp[bn]|.test t,h=>by have:=Ip (t:=t) h;unfold text sz;omega|.not x,h=>by have:=text_le (t:=x) h;have:=qS x.text x.joined;unfold text sz;simp only[aJ,bn,aD,aL];omega|.and l r,h=>by have:=text_le h.1;have:=text_le h.2;have:=qS l.text l.isOr;have:=qS r.text r.joined;unfold text sz;simp only[aJ,bn,aD,aL];omega|.or l r,h=>by have:=text_le h.1;have:=text_le h.2;have:=qS r.text r.isOr;unfold text sz;simp only[aJ,bn,aD,aL];omega
def IU (l:List de):Prop:=l.length<=64/\∃t,jT l=some t/\t.nest<=32/\∀n∈l,n.kind=3->sJ n.test
theorem mN {l:List de}(h:IU l):(gi l).size<=4352:=by obtain⟨h1,t,h2,_,h3⟩:=h;have:=bJ.text_le (mm h2 h3);have e:=rD h2;unfold gi;rw[h2];show t.text.size<=4352;omega
def rN (f:List dO)(l:List de):Bool:=match jT l with|some t=>nz f&&decide (l.length<=64)&&decide (t.nest<=32)&&l.all λn=>!decide (n.kind=3)||JR f n.test|none=>false
theorem Oj {f:List dO}{t:eF}(hf:nz f=true)(h:JR f t=true):sJ t:=by
 unfold JR at h;split at h;case h_2=>cases h
 rename_i g e;rw[aS,bC]at h;obtain⟨h0,h⟩:=h;obtain⟨A,jn,q⟩:=tN h0;rw[e]at jn;injection jn with jn;subst jn;have p:=(oS hf).2.1 g (aE e);obtain⟨i,j,k,b1,m⟩:=p;rw[q]at i j k;have ht:=jd (b:=g.bits) (by omega) m;unfold BP at h;simp only[aS,bz,xB,bC,bX,Bool.not_eq_false']at h;obtain⟨⟨⟨⟨⟨⟨a1,r⟩,⟨⟨⟨s,u⟩,v⟩,c⟩⟩,x⟩,y⟩,z⟩,d⟩:=h;refine⟨i,j,k,by omega,by omega,by omega,⟨by omega,λhf=>by omega⟩,⟨by omega,λhf=>by omega⟩,⟨by omega,λhf=>by omega⟩,λhf=>?_,λhf=>?_⟩
 .rcases c with c|c
  .exact absurd c hf
  .rw[ab,List.isEmpty_iff]at c;exact List.length_eq_zero_iff.2 c
 .rcases d with d|d
  .exact absurd hf d
  .exact⟨by omega,d.2⟩
theorem EY {f:List dO}{l:List de}(h:rN f l=true):IU l:=by
 unfold rN at h;split at h;case h_2=>cases h
 rename_i t ht;simp only[aS,bC,fL,fH,bz,bX]at h;obtain⟨⟨⟨h1,h2⟩,h3⟩,c⟩:=h;exact⟨h2,t,ht,h3,λn d e=>Oj h1 ((c n d).resolve_left (by omega))⟩
end Go.Proofs.YtgfgoaeaicefcaaGreatDoor
