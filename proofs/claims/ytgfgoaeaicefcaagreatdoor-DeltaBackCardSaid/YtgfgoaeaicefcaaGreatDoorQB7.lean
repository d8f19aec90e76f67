/- Part of DeltaBack. -/
import Derived.Test.YtgfgoaeaicefcaaGreatDoorQB6
set_option maxHeartbeats 16000000
set_option maxRecDepth 100000
set_option linter.all false
namespace Go.Proofs.YtgfgoaeaicefcaaGreatDoor
open Go.RowKit Tryz
variable {w:Wq}{g B:Nat}
structure mK (w0:Wq)(Sb:Nat)(l:List Wz)(W:Wq):Prop where
 c:∃v,W.heap[Sb]?=some (.cells #[v] 57 (0,0))/\di W (Sb+1) v l
 b:Below Sb w0 W
def LK (Sb:Nat)(w:Wq)(g:Nat):Prop:=∃v T a,w.heap[Sb]?=some (.cells #[v] T a)/\v.ownBlock=some g
def dB (Sb:Nat)(w w':Wq):Prop:=∀g o,w.heap[g]?=some o->g≠Sb->¬LK Sb w g->w'.heap[g]?=some o/\¬LK Sb w' g
section
variable {w0 W W':Wq} {Sb:Nat} {l:List Wz}
theorem mK.lt (h:mK w0 Sb l W):Sb<W.heap.size:=by obtain⟨v,a,_⟩:=h.c;exact(Array.getElem?_eq_some_iff.1 a).1
theorem mK.below (h:mK w0 Sb l W)(a:JJ W W'):mK w0 Sb l W':=by have b:=h.lt;obtain⟨v,c,hr⟩:=h.c;exact⟨⟨v,(a.block _ b).t c,lC hr a Jq⟩,h.b.t (a.mono (bD b))⟩
theorem xd (hs:Sb<W.heap.size)(b:JJ W W')(h:LK Sb W' g):LK Sb W g:=by obtain⟨v,T,a,h1,h2⟩:=h;exact⟨v,T,a,(b.block _ hs).symm.t h1,h2⟩
theorem dB.of_below (hs:Sb<W.heap.size)(a:JJ W W'):dB Sb W W':=λ_ _ b _ c=>⟨(a.block _ (Array.getElem?_eq_some_iff.1 b).1).t b,λh=>c (xd hs a h)⟩
theorem dB.refl (Sb:Nat)(w:Wq):dB Sb w w:=λ_ _ h _ a=>⟨h,a⟩
theorem dB.t {a:Wq}(h:dB Sb W W')(k:dB Sb W' a):dB Sb W a:=λg o c b d=>by obtain⟨h1,h2⟩:=h g o c b d;exact k g o h1 b h2
def iB (Sb:Nat)(g:Nat)(o:Obj)(w:Wq):Prop:=w.heap[g]?=some o/\g≠Sb/\¬LK Sb w g
theorem iB.keep {o:Obj}(h:iB Sb g o W)(c:dB Sb W W'):iB Sb g o W':=by obtain⟨h1,h2,h3⟩:=h;obtain⟨a,b⟩:=c g o h1 h2 h3;exact⟨a,h2,b⟩
theorem mK.not_own (h:mK w0 Sb l W)(d:g<=Sb\/W.heap.size<=g):¬LK Sb W g:=by
 rintro⟨v,T,c,h1,h2⟩;obtain⟨b,a,hr⟩:=h.c;rw[a]at h1;obtain rfl:b=v:=by injection h1 with h1;injection h1 with h1 _ _;injection h1 with h1;injection h1
 have:=hr.lt g h2;omega
theorem mK.mine (h:mK w0 Sb l W){o:Obj}(a:Below (W.alloc o).heap.size (W.alloc o) W'):iB Sb W.heap.size o W':=by have c:=h.lt;refine⟨(lm a).1,by omega,λb=>?_⟩;exact h.not_own (g:=W.heap.size) (.inr Jq) (xd c (lm a).2 b)
def bR (w0:Wq)(Sb:Nat)(l:List Wz)(w:Wq)(e:Ending)(w':Wq):Prop:=(∃v,e=.returned v)/\mK w0 Sb l w'/\dB Sb w w'/\w.heap.size<=w'.heap.size
theorem lj (s:Wz)(h:mK w0 Sb l W)(hl:l.length<=1000000):Calls prog 10 #[.pointer (some ⟨Sb,0,none⟩),.string s] W (bR w0 Sb (l++[s]) W):=by
 have z:=h.lt;obtain⟨v,j,hr⟩:=h.c;have P:=Hi h.b;obtain⟨A,cap,rfl,ql,qo⟩:=gN hr;have c0:=cz j;obtain⟨R,X,h1,h2,h3,f,q⟩:=lH.hi;have h1:=Hi h1;have h2:=Hi h2;have h3:=Hi h3;have f:=Hi f;have q:=Hi q;replace j:=Hi j;replace hr:=Hi hr;have O:Hid (∀b u c x,(W.alloc (.cells #[.string s] 9 (0,0))).grownBy b (Value.slice A l.length cap).ownBlock->((Value.slice A l.length cap).ownBlock=some c\/c=W.heap.size+1)->b.heap[Sb]?=some (.cells #[.slice A l.length cap] 57 (0,0))->u=.slice (some ⟨c,0,none⟩) (l.length+1) x->dB Sb W (b.setCell ⟨Sb,0,none⟩ u)):=Hi λb u c x i d vs n g o G U Q=>by
  have V:=(Array.getElem?_eq_some_iff.1 G).1;have y:(Value.slice A l.length cap).ownBlock≠some g:=λe=>Q ⟨_,_,_,j.o,e⟩;have f:b.heap[g]?=some o:=(i.block g (by simp;omega) λe=>y e.symm).t ((((aB W.heap.size W).alloc Jq _).block g V).t G);refine⟨?_,?_⟩
  .exact(aT b ⟨Sb,0,none⟩ u g U).t f
  .rintro⟨T,Y,fr',h1,h2⟩;rw[BC vs]at h1;obtain rfl:u=T:=by injection h1 with h1;injection h1 with h1 _ _;injection h1 with h1;injection h1
   subst n;have M:c=g:=by injection h2
   subst M;rcases d with d|d
   .exact y d
   .omega
 have S:Hid (∀b,(W.alloc (.cells #[.string s] 9 (0,0))).grownBy b (Value.slice A l.length cap).ownBlock->b.heap[Sb]?=some (.cells #[.slice A l.length cap] 57 (0,0))/\Below Sb w0 b/\W.heap.size<=b.heap.size):=Hi λb i=>by
  have d:∀g,(Value.slice A l.length cap).ownBlock=some g->Sb+1<=g:=λg e=>(hr.o.lt g e).1;refine⟨(i.block Sb (by simp;omega) λe=>by have:=d Sb e.symm;omega).t ((((aB W.heap.size W).alloc Jq _).block Sb z).t j.o),?_,?_⟩
  .exact P.o.t (((aB Sb W).alloc (bD z) _).grown i (by simp;omega) λk e=>by have:=d k e;omega)
  .have:=i.size;simp at this;omega
 clear h;go_enter func10,ntmps10;go_wp2_with(at_builtin;refine wpList_append_lies _ rfl (.tmp 8) (.tmp 10) _ rfl (Sb+1) 9 R X 1 16 lH.ht h1.o h2.o h3.o f.o q.o (by decide) (.slice A l.length cap) l.length _ rfl (hr.o.alloc _) ⟨W.heap.size,0,none⟩ 1 1 [.string s] rfl rfl (World.news_of_block (aG W _)) (by intro u n;simp only[dN,bG,jf]at n;subst n;rfl) (by decide) (by unfold maxLen;omega) (by omega) (by simp;omega) (W.heap.size+1) (by simp) ?_;intro c t b H r F _;obtain⟨m,E,D⟩:=S.o _ r;have Z:=cz m;have f4:=BO m;have K:=Hi (O.o b (.slice (some ⟨c,0,none⟩) (l.length+1) t) c t r F m rfl);have J:=Hi m;have C:=Hi H;have I:=Hi E;have L:=Hi D;clear H r m E D F);go_end0;refine⟨⟨_,rfl⟩,⟨⟨_,BC J.o,?_⟩,I.o.setCell (p:=⟨Sb,0,none⟩) Jq _⟩,K.o,by rw[il];exact L.o⟩;have N:=bW (a:=⟨Sb,0,none⟩) C.o (by intro e;have:=(C.o.lt Sb e).1;omega) (.slice (some ⟨c,0,none⟩) (l.length+1) t);unfold di;rw[aC,bK];exact N
end
theorem fy {α:Type}{size:Nat}{R:Wq->Nat->List Value->α->Prop}{a:Array Value}{T:TypeId}{d:Nat×Nat}{x:α}(h:w.heap[g]?=some (.cells a T d))(hs:a.size=size)(k:g<B)(f:R w B a.toList x):aX size R w B (.slice (some ⟨g,0,none⟩) 1 1) [x]:=by
 refine⟨[a.toList],rfl,λc b=>by rw[List.mem_singleton.1 b];simpa using hs,⟨_,_,rfl,al _,⟨by decide,by simp⟩,by simp[hs],λ_=>⟨g,0,rfl,k,λj u m=>?_⟩⟩,λi c y b e=>?_⟩
 .have n:a[j]?=some u:=by simpa using m
  rw[aY,aA w g j a T d h,n]
 .cases i with|zero=>simp at b e;subst b e;exact f|succ i=>simp at b
theorem bj {α:Type}{size:Nat}{R:Wq->Nat->List Value->α->Prop}:aX size R w B (.slice none 0 0) ([]:List α):=⟨[],rfl,λc a=>by simp at a,⟨none,0,rfl,al _,⟨by decide,aK _⟩,by simp,λh=>absurd h (lw 0)⟩,λi c x a _=>by simp at a⟩
theorem F7:∀(L:bM)(c:UInt8),c∈L->¬Lib.indexByte L c=-1
 |[],_,h=>by simp at h|x::r,c,h=>by
  show¬(if x==c then 0 else if Lib.indexByte r c==-1 then-1 else Lib.indexByte r c+1)=(-1:Int);by_cases e:x=c
  .rw[ax (by simpa using e)];decide
  .have h1:=F7 r c (by rcases List.mem_cons.1 h with h|h;exact absurd h.symm e;exact h);have h2:=Lib.indexByte_ge r c;rw[ap (by simpa using e),ap (by simpa using h1)];omega
theorem ET {L:bM}(h:(10:UInt8)∈L):1<(iW L).length:=by
 rw[oy];have h1:=F7 L 10 h;have h2:=Lib.indexByte_ge L 10;have h3:Lib.indexB ⟨L.toArray⟩ IR=Lib.indexByte L 10:=by show Lib.index L [10]=_;exact Lib.index_one L 10
 have a:=Lib.countB_hit (⟨L.toArray⟩:Wz) IR (Lib.indexByte L 10).toNat (by decide) (by rw[h3];omega);omega
def ib (x:ay):Wz:=((ba [97,116,32]++x.name)++ba [32])++fi (fo [x] [] []) 1
theorem DU (x:ay):(10:UInt8)∈fo [x] [] []:=by unfold fo l8 bV;simp
theorem BZ (x:ay)(v:List Value)(B:Nat)(w:Wq)(h:jB w B v x)(hB:B<=w.heap.size)(E:gu w)(N:RZ x)(I:(fo [x] [] []).length<=16384):Calls prog 45 #[.agg v.toArray] w (kZ (ib x) w):=by
 have y:=h;obtain⟨c,m,d,n,a,k,f,o,j,q,i,p,rfl,_,M,_⟩:=fD h;obtain⟨W,t⟩:=Jj (w.alloc (kR (.string x.name) (.slice c x.ins.length m) (.slice d x.outs.length n) (.slice a x.guards.length k) (.slice f x.rules.length o) (.slice j x.owns.length q) (.slice i x.routes.length p)));have G:=Hi (show JJ w W by rw[<-t];exact(aB w.heap.size w).alloc Jq _);have u:W.heap[w.heap.size]?=some (kR (.string x.name) (.slice c x.ins.length m) (.slice d x.outs.length n) (.slice a x.guards.length k) (.slice f x.rules.length o) (.slice j x.owns.length q) (.slice i x.routes.length p)):=Jy t;have J:w.heap.size<W.heap.size:=by rw[<-t];simp
 obtain⟨Y,Z,x2,x3,x4,x5,x6⟩:=au u;have K:=Hi λW' (r:JJ W W')=>au ((r.block _ J).t u);have A:=Hi λW' (r:JJ W W')=>(JK G.o r);have H:Hid (∀(s:Wq),JJ W s->s.heap[W.heap.size]?=some (kR (.string x.name) (.slice c x.ins.length m) (.slice d x.outs.length n) (.slice a x.guards.length k) (.slice f x.rules.length o) (.slice j x.owns.length q) (.slice i x.routes.length p))->Calls prog 16 #[.agg #[.string ⟨#[]⟩,.slice none 0 0,.string ⟨#[]⟩,.bool false,.slice (some ⟨W.heap.size,0,none⟩) 1 1,.slice none 0 0,.slice none 0 0],I6 1] s (kZ (fi (fo [x] [] []) 1) s)):=Hi λs r z=>by have D:=A.o s r;have U:=(Array.getElem?_eq_some_iff.1 z).1;refine uv [x] [] [] none 0 _ _ _ 1 (W.heap.size+1) _ (fy z rfl (bQ _) ?_) bj bj (by omega) (E.below D) (by intro b r;rw[List.mem_singleton.1 r];exact N) (by simp) (by simp) I (λe=>by have:=DU x;rw[e]at this;simp at this) (ET (DU x));exact y.keep (by have:=G.o.size;omega) (av D hB)
 have vb:=Hi (show(W.alloc (kR (.string x.name) (.slice c x.ins.length m) (.slice d x.outs.length n) (.slice a x.guards.length k) (.slice f x.rules.length o) (.slice j x.owns.length q) (.slice i x.routes.length p))).drew.heap[W.heap.size]?=some (kR (.string x.name) (.slice c x.ins.length m) (.slice d x.outs.length n) (.slice a x.guards.length k) (.slice f x.rules.length o) (.slice j x.owns.length q) (.slice i x.routes.length p))from aG W _);have C:=Hi (show JJ W (W.alloc (kR (.string x.name) (.slice c x.ins.length m) (.slice d x.outs.length n) (.slice a x.guards.length k) (.slice f x.rules.length o) (.slice j x.owns.length q) (.slice i x.routes.length p))).drew from((aB W.heap.size W).alloc Jq _).drew);have hN:=Hi (show ib x=((ba [97,116,32]++x.name)++ba [32])++fi (fo [x] [] []) 1 from rfl);have zl:=HW (fo [x] [] []) 1;generalize fi (fo [x] [] []) 1=T at*;generalize ib x=P at*;have V:x.name.size<=140737488355328:=M;have O:¬9223372036854775807<3+x.name.size:=by omega
 have Q:¬9223372036854775807<3+x.name.size+1:=by omega
 have R:¬9223372036854775807<3+x.name.size+1+T.size:=by omega
 have S:=Hi (aB W.heap.size W).drew;clear u h y;go_enter func45,ntmps45;go_upto_region 1 with fail;clear t;go_region_held3 (λW'=>W'.cell? ⟨w.heap.size,0,none⟩=some (.string x.name)/\W'.cell? ⟨w.heap.size,1,none⟩=some (.slice c x.ins.length m)/\W'.cell? ⟨w.heap.size,2,none⟩=some (.slice d x.outs.length n)/\W'.cell? ⟨w.heap.size,3,none⟩=some (.slice a x.guards.length k)/\W'.cell? ⟨w.heap.size,4,none⟩=some (.slice f x.rules.length o)/\W'.cell? ⟨w.heap.size,5,none⟩=some (.slice j x.owns.length q)/\W'.cell? ⟨w.heap.size,6,none⟩=some (.slice i x.routes.length p))(first|exact hHeld|go_keep|exact K.o _ F)(((with_reducible refine(H.o _ C.o vb.o).mono ?_);rintro e X ⟨rfl,L⟩;have F:=(JK C.o L)));all_goals go_wp2_with fail;go_ret;exact⟨by rw[hN.o];rfl,A.o _ F⟩
def fc {α:Type}(e:α->α->Bool):List α->List α->Bool|[],[]=>true|x::r,y::q=>e x y&&fc e r q|_,_=>false
theorem nL {α:Type}{e:α->α->Bool}:∀{l m:List α},l.length≠m.length->fc e l m=false|[],[],h=>absurd rfl h|[],_::_,_=>rfl|_::_,[],_=>rfl|x::r,y::q,h=>by unfold fc;rw[nL (l:=r) (m:=q) (λe=>h (by simp[e])),Bool.and_false]
theorem oX {α:Type}{e:α->α->Bool}{l m:List α}{k:Nat}{x y:α}(a:l[k]?=some x)(b:m[k]?=some y):fc e (l.drop k) (m.drop k)=(e x y&&fc e (l.drop (k+1)) (m.drop (k+1))):=by rw[fP a,fP b];rfl
theorem Ef {P:Program}{t:TypeId}{xs a:Array Value}{b:Bool}(h:(binOp .eql t (.agg xs) (.agg a)).run P w=.ok (.bool b) w):(binOp .neq t (.agg xs) (.agg a)).run P w=.ok (.bool (!b)) w:=by rw[run_neq_struct];rw[nT]at h;generalize(Op.equalIn 10000 t (.agg xs) (.agg a)).run P w=r at*;cases r with|ok c w1=>simp only[jA]at h⊢;injection h with h1 h2;injection h1 with h1;rw[h1,h2]|halt c w1=>cases h
abbrev Ic (x:dO):Array Value:=#[.string x.name,I6 x.bits]
def iK (x y:dO):Bool:=(x.name.toList==y.name.toList)&&(x.bits==y.bits)
theorem KV (x y:dO)(w:Wq):(binOp .eql 37 (.agg (Ic x)) (.agg (Ic y))).run prog w=.ok (.bool (iK x y)) w:=by
 have u3:=underlying3;have u9:=underlying9;have c:=isAgg3;have d:=isAgg9;have e:=sizeOf3;have f:=sizeOf9;have a:prog.underlying 37=some (.struct (prog.fieldsOf 37)):=by kernel_rfl
 have b:prog.stoodInHeld 37=false:=by kernel_rfl
 unfold iK;rw[nT,show(10000:Nat)=9999+1 from rfl,py w 9999 37 _ _ a b];simp only[Program.fieldsOf,underlying37];go_simp;by_cases h0:x.name.toList=y.name.toList<;>by_cases h1:x.bits=y.bits<;>simp[h0,h1]
abbrev Nj (x:de):Array Value:=#[I6 x.kind,.string x.test.field,I6 x.test.op,I6 x.test.form,I6 x.test.lo,I6 x.test.hi,I6 x.test.len,.string x.test.pat]
def fj (x y:de):Bool:=(x.kind==y.kind)&&(x.test.field.toList==y.test.field.toList)&&(x.test.op==y.test.op)&&(x.test.form==y.test.form)&&(x.test.lo==y.test.lo)&&(x.test.hi==y.test.hi)&&(x.test.len==y.test.len)&&(x.test.pat.toList==y.test.pat.toList)
theorem M3 (x y:de)(w:Wq):(binOp .eql 46 (.agg (Nj x)) (.agg (Nj y))).run prog w=.ok (.bool (fj x y)) w:=by
 have u3:=underlying3;have u9:=underlying9;have c:=isAgg3;have d:=isAgg9;have e:=sizeOf3;have f:=sizeOf9;have a:prog.underlying 46=some (.struct (prog.fieldsOf 46)):=by kernel_rfl
 have b:prog.stoodInHeld 46=false:=by kernel_rfl
 unfold fj;rw[nT,show(10000:Nat)=9999+1 from rfl,py w 9999 46 _ _ a b];simp only[Program.fieldsOf,underlying46];go_simp;by_cases h0:x.kind=y.kind<;>by_cases h1:x.test.field.toList=y.test.field.toList<;>by_cases h2:x.test.op=y.test.op<;>by_cases h3:x.test.form=y.test.form<;>by_cases h4:x.test.lo=y.test.lo<;>by_cases h5:x.test.hi=y.test.hi<;>by_cases h6:x.test.len=y.test.len<;>by_cases h7:x.test.pat.toList=y.test.pat.toList<;>simp[h0,h1,h2,h3,h4,h5,h6,h7]
abbrev QT (x:iV):Array Value:=#[.string x.field,I6 x.value]
def kO (x y:iV):Bool:=(x.field.toList==y.field.toList)&&(x.value==y.value)
theorem PD (x y:iV)(w:Wq):(binOp .eql 127 (.agg (QT x)) (.agg (QT y))).run prog w=.ok (.bool (kO x y)) w:=by
 have u3:=underlying3;have u9:=underlying9;have c:=isAgg3;have d:=isAgg9;have e:=sizeOf3;have f:=sizeOf9;have a:prog.underlying 127=some (.struct (prog.fieldsOf 127)):=by kernel_rfl
 have b:prog.stoodInHeld 127=false:=by kernel_rfl
 unfold kO;rw[nT,show(10000:Nat)=9999+1 from rfl,py w 9999 127 _ _ a b];simp only[Program.fieldsOf,underlying127];go_simp;by_cases h0:x.field.toList=y.field.toList<;>by_cases h1:x.value=y.value<;>simp[h0,h1]
abbrev Nk (x:eQ):Array Value:=#[.string x.frm,.string x.dst,I6 x.cost]
def ij (x y:eQ):Bool:=(x.frm.toList==y.frm.toList)&&(x.dst.toList==y.dst.toList)&&(x.cost==y.cost)
theorem GH (x y:eQ)(w:Wq):(binOp .eql 62 (.agg (Nk x)) (.agg (Nk y))).run prog w=.ok (.bool (ij x y)) w:=by
 have u3:=underlying3;have u9:=underlying9;have c:=isAgg3;have d:=isAgg9;have e:=sizeOf3;have f:=sizeOf9;have a:prog.underlying 62=some (.struct (prog.fieldsOf 62)):=by kernel_rfl
 have b:prog.stoodInHeld 62=false:=by kernel_rfl
 unfold ij;rw[nT,show(10000:Nat)=9999+1 from rfl,py w 9999 62 _ _ a b];simp only[Program.fieldsOf,underlying62];go_simp;by_cases h0:x.frm.toList=y.frm.toList<;>by_cases h1:x.dst.toList=y.dst.toList<;>by_cases h2:x.cost=y.cost<;>simp[h0,h1,h2]
abbrev Ni (x:dc):Array Value:=#[I6 x.value,I6 x.len,.string x.dst]
def fX (x y:dc):Bool:=(x.value==y.value)&&(x.len==y.len)&&(x.dst.toList==y.dst.toList)
theorem GF (x y:dc)(w:Wq):(binOp .eql 96 (.agg (Ni x)) (.agg (Ni y))).run prog w=.ok (.bool (fX x y)) w:=by
 have u3:=underlying3;have u9:=underlying9;have c:=isAgg3;have d:=isAgg9;have e:=sizeOf3;have f:=sizeOf9;have a:prog.underlying 96=some (.struct (prog.fieldsOf 96)):=by kernel_rfl
 have b:prog.stoodInHeld 96=false:=by kernel_rfl
 unfold fX;rw[nT,show(10000:Nat)=9999+1 from rfl,py w 9999 96 _ _ a b];simp only[Program.fieldsOf,underlying96];go_simp;by_cases h0:x.value=y.value<;>by_cases h1:x.len=y.len<;>by_cases h2:x.dst.toList=y.dst.toList<;>simp[h0,h1,h2]
theorem Fj (l m:List dO)(v u:Value)(B:Nat)(w:Wq)(d:eX w B v l)(f:eX w B u m)(hB:B<=w.heap.size):Calls prog 9 #[v,u] w (dP (fc iK l m) w):=by
 obtain⟨A,M,rfl,T,S⟩:=aX.form d;obtain⟨D,N,rfl,U,V⟩:=aX.form f;have q:=Hi (aB w.heap.size w);by_cases hlen:l.length=m.length;case neg=>
  have K:=Hi (nL (e:=iK) hlen);have s:((l.length:Int) !=(m.length:Int))=true:=by simp;omega
  generalize fc iK l m=R at*;clear d f;go_enter func9,ntmps9;go_wp2_with fail;go_ret;exact⟨by rw[K.o];rfl,q.o⟩
 have s:((l.length:Int) !=(m.length:Int))=false:=by simp;omega
 have G:Hid (fc iK l m=fc iK (l.drop 0) (m.drop 0)):=Hi rfl;have F:=Hi hlen;generalize fc iK l m=R at*;replace d:=Hi d;replace f:=Hi f;clear hlen;go_enter func9,ntmps9;go_wp2_with fail;clear s;go_loopw [13] (λi wr=>∃k:Nat,k<=l.length/\i=I6 k/\Hid (R=fc iK (l.drop k) (m.drop k))/\Hid (JJ w wr))(λi _=>l.length-(intOf i).toNat);case atStart=>exact⟨0,aK _,rfl,G,q⟩
 case round=>
  obtain⟨k,P,rfl,j,jn⟩:=hrel;obtain⟨a,rfl⟩:=Jv wr;clear G q;by_cases jt:k<l.length
  .have L:k<m.length:=by have:=F.o;omega
   have h1:=d.o.keep (w':=a) Jq (av jn.o hB) λ_ _ h=>h;have h2:=f.o.keep (w':=a) Jq (av jn.o hB) λ_ _ h=>h;obtain⟨b,off,rfl⟩:=aX.addr h1 (by omega);obtain⟨r,E,rfl⟩:=aX.addr h2 (by omega);obtain⟨_,c1,x,t,I,jy⟩:=aX.el h1 jt;obtain rfl:=I.1;have Y:a.cell? ⟨b,off+k*2,none⟩=some (.string x.name):=jy 0 _ rfl;have X:a.cell? ⟨b,off+k*2+1,none⟩=some (I6 x.bits):=jy 1 _ rfl;clear I jy;obtain⟨_,c2,y,z,J,p⟩:=aX.el h2 L;obtain rfl:=J.1;have Z:a.cell? ⟨r,E+k*2,none⟩=some (.string y.name):=p 0 _ rfl;have vl:a.cell? ⟨r,E+k*2+1,none⟩=some (I6 y.bits):=p 1 _ rfl;clear J p;have o:=Hi (j.o.t (oX t z));have H:=Hi λn=>ar jn.o n;have O:=Hi jn.o;have Q:(k:Int)<(m.length:Int):=by omega
   clear j t z h1 h2;have C:=λw=>Ef (KV x y w);cases heq:iK x y
   .rw[heq]at C o;have c:=Hi (show R=false from o.o);go_upto_region 6 with fail;go_quiet(fail);go_wp2_with fail;go_ret;exact⟨by rw[c.o];rfl,H.o _⟩
   .rw[heq]at C o;have c:=Hi (show R=fc iK (l.drop (k+1)) (m.drop (k+1))from o.o);go_upto_region 6 with fail;go_quiet(fail);go_wp2_with fail;go_roundw;case rel=>exact⟨k+1,by omega,by go_num,c,H.o _⟩
    case measure=>simp[intOf];omega
  .have c:Hid (R=true):=Hi (by rw[j.o,bL (by omega),bL (by have:=F.o;omega)];rfl);clear j;go_wp2_with fail;go_ret;exact⟨by rw[c.o];rfl,jn.o⟩
theorem uS (l m:List de)(v u:Value)(B:Nat)(w:Wq)(o:iq w B v l)(p:iq w B u m)(hB:B<=w.heap.size):Calls prog 63 #[v,u] w (dP (fc fj l m) w):=by
 obtain⟨A,M,rfl,q8,q6⟩:=aX.form o;obtain⟨D,N,rfl,q9,vc⟩:=aX.form p;have s:=Hi (aB w.heap.size w);by_cases hlen:l.length=m.length;case neg=>
  have K:=Hi (nL (e:=fj) hlen);have t:((l.length:Int) !=(m.length:Int))=true:=by simp;omega
  generalize fc fj l m=R at*;clear o p;go_enter func63,ntmps63;go_wp2_with fail;go_ret;exact⟨by rw[K.o];rfl,s.o⟩
 have t:((l.length:Int) !=(m.length:Int))=false:=by simp;omega
 have G:Hid (fc fj l m=fc fj (l.drop 0) (m.drop 0)):=Hi rfl;have F:=Hi hlen;generalize fc fj l m=R at*;replace o:=Hi o;replace p:=Hi p;clear hlen;go_enter func63,ntmps63;go_wp2_with fail;clear t;go_loopw [13] (λi wr=>∃k:Nat,k<=l.length/\i=I6 k/\Hid (R=fc fj (l.drop k) (m.drop k))/\Hid (JJ w wr))(λi _=>l.length-(intOf i).toNat);case atStart=>exact⟨0,aK _,rfl,G,s⟩
 case round=>
  obtain⟨k,hk,rfl,q,jn⟩:=hrel;obtain⟨a,rfl⟩:=Jv wr;clear G s;by_cases jt:k<l.length
  .have L:k<m.length:=by have:=F.o;omega
   have h1:=o.o.keep (w':=a) Jq (av jn.o hB) λ_ _ h=>h;have h2:=p.o.keep (w':=a) Jq (av jn.o hB) λ_ _ h=>h;obtain⟨b,off,rfl⟩:=aX.addr h1 (by omega);obtain⟨d,f,rfl⟩:=aX.addr h2 (by omega);obtain⟨_,c1,x,z,I,jy⟩:=aX.el h1 jt;obtain rfl:=I.1;have vm:a.cell? ⟨b,off+k*8,none⟩=some (I6 x.kind):=jy 0 _ rfl;have vd:a.cell? ⟨b,off+k*8+1,none⟩=some (.string x.test.field):=jy 1 _ rfl;have O:a.cell? ⟨b,off+k*8+2,none⟩=some (I6 x.test.op):=jy 2 _ rfl;have P:a.cell? ⟨b,off+k*8+3,none⟩=some (I6 x.test.form):=jy 3 _ rfl;have Q:a.cell? ⟨b,off+k*8+4,none⟩=some (I6 x.test.lo):=jy 4 _ rfl;have S:a.cell? ⟨b,off+k*8+5,none⟩=some (I6 x.test.hi):=jy 5 _ rfl;have T:a.cell? ⟨b,off+k*8+6,none⟩=some (I6 x.test.len):=jy 6 _ rfl;have U:a.cell? ⟨b,off+k*8+7,none⟩=some (.string x.test.pat):=jy 7 _ rfl;clear I jy;obtain⟨_,c2,y,C,J,c⟩:=aX.el h2 L;obtain rfl:=J.1;have vo:a.cell? ⟨d,f+k*8,none⟩=some (I6 y.kind):=c 0 _ rfl;have vl:a.cell? ⟨d,f+k*8+1,none⟩=some (.string y.test.field):=c 1 _ rfl;have V:a.cell? ⟨d,f+k*8+2,none⟩=some (I6 y.test.op):=c 2 _ rfl;have X:a.cell? ⟨d,f+k*8+3,none⟩=some (I6 y.test.form):=c 3 _ rfl;have Y:a.cell? ⟨d,f+k*8+4,none⟩=some (I6 y.test.lo):=c 4 _ rfl;have Z:a.cell? ⟨d,f+k*8+5,none⟩=some (I6 y.test.hi):=c 5 _ rfl;have e26:a.cell? ⟨d,f+k*8+6,none⟩=some (I6 y.test.len):=c 6 _ rfl;have e27:a.cell? ⟨d,f+k*8+7,none⟩=some (.string y.test.pat):=c 7 _ rfl;clear J c;have r:=Hi (q.o.t (oX z C));have H:=Hi λn=>ar jn.o n;have hb:=Hi jn.o;have i1:(k:Int)<(m.length:Int):=by omega
   clear q z C h1 h2;have E:=λw=>Ef (M3 x y w);cases heq:fj x y
   .rw[heq]at E r;have j:=Hi (show R=false from r.o);go_upto_region 6 with fail;go_quiet(fail);go_wp2_with fail;go_ret;exact⟨by rw[j.o];rfl,H.o _⟩
   .rw[heq]at E r;have j:=Hi (show R=fc fj (l.drop (k+1)) (m.drop (k+1))from r.o);go_upto_region 6 with fail;go_quiet(fail);go_wp2_with fail;go_roundw;case rel=>exact⟨k+1,by omega,by go_num,j,H.o _⟩
    case measure=>simp[intOf];omega
  .have j:Hid (R=true):=Hi (by rw[q.o,bL (by omega),bL (by have:=F.o;omega)];rfl);clear q;go_wp2_with fail;go_ret;exact⟨by rw[j.o];rfl,jn.o⟩
theorem No (l m:List iV)(v u:Value)(B:Nat)(w:Wq)(d:AT w B v l)(f:AT w B u m)(hB:B<=w.heap.size):Calls prog 110 #[v,u] w (dP (fc kO l m) w):=by
 obtain⟨A,M,rfl,T,S⟩:=aX.form d;obtain⟨D,N,rfl,U,V⟩:=aX.form f;have q:=Hi (aB w.heap.size w);by_cases hlen:l.length=m.length;case neg=>
  have K:=Hi (nL (e:=kO) hlen);have s:((l.length:Int) !=(m.length:Int))=true:=by simp;omega
  generalize fc kO l m=R at*;clear d f;go_enter func110,ntmps110;go_wp2_with fail;go_ret;exact⟨by rw[K.o];rfl,q.o⟩
 have s:((l.length:Int) !=(m.length:Int))=false:=by simp;omega
 have G:Hid (fc kO l m=fc kO (l.drop 0) (m.drop 0)):=Hi rfl;have F:=Hi hlen;generalize fc kO l m=R at*;replace d:=Hi d;replace f:=Hi f;clear hlen;go_enter func110,ntmps110;go_wp2_with fail;clear s;go_loopw [13] (λi wr=>∃k:Nat,k<=l.length/\i=I6 k/\Hid (R=fc kO (l.drop k) (m.drop k))/\Hid (JJ w wr))(λi _=>l.length-(intOf i).toNat);case atStart=>exact⟨0,aK _,rfl,G,q⟩
 case round=>
  obtain⟨k,P,rfl,j,jn⟩:=hrel;obtain⟨a,rfl⟩:=Jv wr;clear G q;by_cases jt:k<l.length
  .have L:k<m.length:=by have:=F.o;omega
   have h1:=d.o.keep (w':=a) Jq (av jn.o hB) λ_ _ h=>h;have h2:=f.o.keep (w':=a) Jq (av jn.o hB) λ_ _ h=>h;obtain⟨b,off,rfl⟩:=aX.addr h1 (by omega);obtain⟨r,E,rfl⟩:=aX.addr h2 (by omega);obtain⟨_,c1,x,t,I,jy⟩:=aX.el h1 jt;obtain rfl:=I.1;have Y:a.cell? ⟨b,off+k*2,none⟩=some (.string x.field):=jy 0 _ rfl;have X:a.cell? ⟨b,off+k*2+1,none⟩=some (I6 x.value):=jy 1 _ rfl;clear I jy;obtain⟨_,c2,y,z,J,p⟩:=aX.el h2 L;obtain rfl:=J.1;have Z:a.cell? ⟨r,E+k*2,none⟩=some (.string y.field):=p 0 _ rfl;have vl:a.cell? ⟨r,E+k*2+1,none⟩=some (I6 y.value):=p 1 _ rfl;clear J p;have o:=Hi (j.o.t (oX t z));have H:=Hi λn=>ar jn.o n;have O:=Hi jn.o;have Q:(k:Int)<(m.length:Int):=by omega
   clear j t z h1 h2;have C:=λw=>Ef (PD x y w);cases heq:kO x y
   .rw[heq]at C o;have c:=Hi (show R=false from o.o);go_upto_region 6 with fail;go_quiet(fail);go_wp2_with fail;go_ret;exact⟨by rw[c.o];rfl,H.o _⟩
   .rw[heq]at C o;have c:=Hi (show R=fc kO (l.drop (k+1)) (m.drop (k+1))from o.o);go_upto_region 6 with fail;go_quiet(fail);go_wp2_with fail;go_roundw;case rel=>exact⟨k+1,by omega,by go_num,c,H.o _⟩
    case measure=>simp[intOf];omega
  .have c:Hid (R=true):=Hi (by rw[j.o,bL (by omega),bL (by have:=F.o;omega)];rfl);clear j;go_wp2_with fail;go_ret;exact⟨by rw[c.o];rfl,jn.o⟩
def bg (x y:Wz):Bool:=x.toList==y.toList
theorem ov (l m:List Wz)(v u:Value)(B:Nat)(w:Wq)(c:dk w B v l)(d:dk w B u m)(hB:B<=w.heap.size):Calls prog 62 #[v,u] w (dP (fc bg l m) w):=by
 obtain⟨A,H,rfl,Q,P⟩:=aX.form c;obtain⟨D,I,rfl,S,T⟩:=aX.form d;have j:=Hi (aB w.heap.size w);by_cases hlen:l.length=m.length;case neg=>
  have E:=Hi (nL (e:=bg) hlen);have o:((l.length:Int) !=(m.length:Int))=true:=by simp;omega
  generalize fc bg l m=R at*;clear c d;go_enter func62,ntmps62;go_wp2_with fail;go_ret;exact⟨by rw[E.o];rfl,j.o⟩
 have o:((l.length:Int) !=(m.length:Int))=false:=by simp;omega
 have t:Hid (fc bg l m=fc bg (l.drop 0) (m.drop 0)):=Hi rfl;have s:=Hi hlen;generalize fc bg l m=R at*;replace c:=Hi c;replace d:=Hi d;clear hlen;go_enter func62,ntmps62;go_wp2_with fail;clear o;go_loopw [13] (λi wr=>∃k:Nat,k<=l.length/\i=I6 k/\Hid (R=fc bg (l.drop k) (m.drop k))/\Hid (JJ w wr))(λi _=>l.length-(intOf i).toNat);case atStart=>exact⟨0,aK _,rfl,t,j⟩
 case round=>
  obtain⟨k,M,rfl,f,jn⟩:=hrel;obtain⟨C,rfl⟩:=Jv wr;clear t j;by_cases jt:k<l.length
  .have F:k<m.length:=by have:=s.o;omega
   have h1:=c.o.keep (w':=C) Jq (av jn.o hB);have h2:=d.o.keep (w':=C) Jq (av jn.o hB);obtain⟨b,off,rfl⟩:=aX.addr h1 (by omega);obtain⟨G,O,rfl⟩:=aX.addr h2 (by omega);obtain⟨_,x,p,_,J⟩:=fx h1 jt;obtain⟨_,y,q,_,K⟩:=fx h2 F;have h:=Hi (f.o.t (oX p q));have z:=Hi λn=>ar jn.o n;have L:=Hi jn.o;have N:(k:Int)<(m.length:Int):=by omega
   clear f p q h1 h2;have r:(x.toList==y.toList)=bg x y:=rfl;cases heq:bg x y
   .rw[heq]at r h;have a:=Hi (show R=false from h.o);go_upto_region 6 with fail;go_quiet(fail);go_wp2_with fail;go_ret;exact⟨by rw[a.o];rfl,z.o _⟩
   .rw[heq]at r h;have a:=Hi (show R=fc bg (l.drop (k+1)) (m.drop (k+1))from h.o);go_upto_region 6 with fail;go_quiet(fail);go_wp2_with fail;go_roundw;case rel=>exact⟨k+1,by omega,by go_num,a,z.o _⟩
    case measure=>simp[intOf];omega
  .have a:Hid (R=true):=Hi (by rw[f.o,bL (by omega),bL (by have:=s.o;omega)];rfl);clear f;go_wp2_with fail;go_ret;exact⟨by rw[a.o];rfl,jn.o⟩
theorem EC {b a:Wq}{A B:Obj}(h0:w.alloc A=b)(h1:b.alloc B=a):b.heap.size=w.heap.size+1/\a.heap.size=w.heap.size+2/\JJ w a/\a.heap[w.heap.size]?=some A/\a.heap[w.heap.size+1]?=some B:=by
 subst h0 h1;refine⟨by simp,by simp,((aB _ w).alloc Jq _).alloc (by simp) _,(dg _ _ (by simp)).t (aG w _),?_⟩;have e:(w.alloc A).heap.size=w.heap.size+1:=by simp
 rw[<-e];exact aG _ _
section
variable {w:Wq} {B:Nat}
theorem bd {a b c:Value}{t:TypeId}{d:Nat×Nat}(h:w.heap[g]?=some (.cells #[a,b,c] t d)):w.cell? ⟨g,0,none⟩=some a/\w.cell? ⟨g,1,none⟩=some b/\w.cell? ⟨g,2,none⟩=some c:=iX h
theorem OZ (x y:eQ)(c d:List Value)(f:fQ w B c x)(h:fQ w B d y):Calls prog 13 #[.agg c.toArray,.agg d.toArray] w (dP (ij x y) w):=by
 obtain rfl:=f.1;obtain rfl:=h.1;obtain⟨b,e⟩:=Jj (w.alloc (.cells #[.string x.frm,.string x.dst,I6 x.cost] 62 (0,0)));have i:b.heap.size=w.heap.size+1:=Jw e;obtain⟨a,j9⟩:=Jj (b.alloc (.cells #[.string y.frm,.string y.dst,I6 y.cost] 62 (0,0)));have m:a.heap.size=w.heap.size+2:=by rw[<-j9];simp[i]
 have jm:=Hi (show JJ w a by rw[<-j9,<-e];exact(Jz.alloc Jq _).alloc (by simp) _);obtain⟨a0,a1,j⟩:=bd (show a.heap[w.heap.size]?=some _ by rw[<-j9,<-e];exact(((aB (w.alloc _).heap.size (w.alloc _)).alloc Jq _).block w.heap.size (by simp)).t (aG w _));obtain⟨b0,b1,k⟩:=bd (show a.heap[w.heap.size+1]?=some _ by rw[<-j9,<-i];exact aG b _);have n:=λw=>GH x y w;clear f h;go_enter func13,ntmps13;go_wp2_with fail;go_ret;exact⟨rfl,jm.o⟩
theorem OW (x y:dc)(c d:List Value)(f:fw w B c x)(h:fw w B d y):Calls prog 46 #[.agg c.toArray,.agg d.toArray] w (dP (fX x y) w):=by
 obtain rfl:=f.1;obtain rfl:=h.1;obtain⟨b,e⟩:=Jj (w.alloc (.cells #[I6 x.value,I6 x.len,.string x.dst] 96 (0,0)));have i:b.heap.size=w.heap.size+1:=Jw e;obtain⟨a,j9⟩:=Jj (b.alloc (.cells #[I6 y.value,I6 y.len,.string y.dst] 96 (0,0)));have m:a.heap.size=w.heap.size+2:=by rw[<-j9];simp[i]
 have jm:=Hi (show JJ w a by rw[<-j9,<-e];exact(Jz.alloc Jq _).alloc (by simp) _);obtain⟨a0,a1,j⟩:=bd (show a.heap[w.heap.size]?=some _ by rw[<-j9,<-e];exact(((aB (w.alloc _).heap.size (w.alloc _)).alloc Jq _).block w.heap.size (by simp)).t (aG w _));obtain⟨b0,b1,k⟩:=bd (show a.heap[w.heap.size+1]?=some _ by rw[<-j9,<-i];exact aG b _);have n:=λw=>GF x y w;clear f h;go_enter func46,ntmps46;go_wp2_with fail;go_ret;exact⟨rfl,jm.o⟩
def gp (x y:dE):Bool:=(x.name.toList==y.name.toList)&&(fc bg x.ports y.ports&&fc fj x.whr y.whr)
theorem Lm (x y:dE)(c d:List Value)(A:da w B c x)(C:da w B d y)(hB:B<=w.heap.size):Calls prog 18 #[.agg c.toArray,.agg d.toArray] w (dP (gp x y) w):=by
 obtain⟨p,t,q,u,rfl,_,D,E⟩:=fI A;obtain⟨r,v,s,z,rfl,_,F,G⟩:=fI C;obtain⟨H,K⟩:=Jj (w.alloc (.cells #[.string x.name,.slice p x.ports.length t,.slice q x.whr.length u] 68 (0,0)));obtain⟨b,j9⟩:=Jj (H.alloc (.cells #[.string y.name,.slice r y.ports.length v,.slice s y.whr.length z] 68 (0,0)));obtain⟨P,Q,jm,j,k⟩:=EC K j9;replace jm:=Hi jm;obtain⟨a0,a1,I⟩:=bd j;obtain⟨b0,b1,J⟩:=bd k;have m:=Hi λW (a:JJ b W)=>bd ((a.block _ (by omega)).t j);have n:=Hi λW (a:JJ b W)=>bd ((a.block _ (by omega)).t k);have jl:=Hi λW (a:JJ b W)=>jm.o.t (a.mono (by omega));have c1:=Hi λW (a:JJ b W)=>ov x.ports y.ports _ _ _ W (D.below (jl.o W a) hB) (F.below (jl.o W a) hB) (jl.o W a).size;have c2:=Hi λW (a:JJ b W)=>uS x.whr y.whr _ _ _ W (E.below (jl.o W a) hB) (G.below (jl.o W a) hB) (jl.o W a).size;have jk:=Hi λW (a:JJ b W)=>(⟨(m.o W a).1,(m.o W a).2.1,(m.o W a).2.2,(n.o W a).1,(n.o W a).2.1,(n.o W a).2.2⟩:W.cell? ⟨w.heap.size,0,none⟩=some (.string x.name)/\W.cell? ⟨w.heap.size,1,none⟩=some (.slice p x.ports.length t)/\W.cell? ⟨w.heap.size,2,none⟩=some (.slice q x.whr.length u)/\W.cell? ⟨w.heap.size+1,0,none⟩=some (.string y.name)/\W.cell? ⟨w.heap.size+1,1,none⟩=some (.slice r y.ports.length v)/\W.cell? ⟨w.heap.size+1,2,none⟩=some (.slice s y.whr.length z));have O:=Hi (aB b.heap.size b).drew;have j8:=Hi (aB b.heap.size b);have f:Hid (gp x y=((x.name.toList==y.name.toList)&&(fc bg x.ports y.ports&&fc fj x.whr y.whr))):=Hi rfl;generalize gp x y=R at*;clear A C j k D E F G;by_cases hn:x.name.toList=y.name.toList;case neg=>have o:(x.name.toList==y.name.toList)=false:=beq_eq_false_iff_ne.2 hn;have i:=Hi (show R=false by rw[f.o,o];rfl);clear c1 c2;go_enter func18,ntmps18;go_wp2_with fail;go_ret;exact⟨by rw[i.o];rfl,jl.o _ j8.o⟩
 have o:(x.name.toList==y.name.toList)=true:=beq_iff_eq.2 hn;rw[o,az]at f;go_enter func18,ntmps18;cases hp:fc bg x.ports y.ports
 .rw[hp]at f c1;have i:=Hi (show R=false from f.o);clear c2;go_wp2_with((with_reducible refine(c1.o _ j8.o).mono ?_);rintro e N ⟨rfl,h⟩);go_ret;exact⟨by rw[i.o];rfl,jl.o _ h⟩
 .rw[hp,az]at f;rw[hp]at c1;go_wp2_with(first|((with_reducible refine(c2.o _ h).mono ?_);rintro e S ⟨rfl,M⟩;have L:=(JK h M))|((with_reducible refine(c1.o _ j8.o).mono ?_);rintro e N ⟨rfl,h⟩;obtain⟨a0,a1,I,b0,b1,J⟩:=jk.o _ h));go_ret;exact⟨by rw[f.o];rfl,jl.o _ L⟩
end
def lr (w:Wq)(B:Nat)(c:List Value)(x:db):Prop:=gn w B c x/\x.frm.length<=100000
theorem lr.keep {w':Wq}{B':Nat}{c:List Value}{x:db}(h:lr w B c x)(hB:B<=B')(a:∀b o,b<B->w'.cell? ⟨b,o,none⟩=w.cell? ⟨b,o,none⟩):lr w' B' c x:=⟨h.1.keep hB a,h.2⟩
section
variable {w:Wq} {B:Nat}
def iy (a:List Wz->List Wz->Bool)(x y:db):Bool:=(x.prio==y.prio)&&(a x.frm y.frm&&(fc fj x.mat y.mat&&(fc kO x.sets y.sets&&fc bg x.dst y.dst)))
def yc (a:List Wz->List Wz->Bool):Prop:=∀(l m:List Wz)(v u:Value)(B:Nat)(w:Wq),l.length<=100000->m.length<=100000->dk w B v l->dk w B u m->B<=w.heap.size->Calls prog 109 #[v,u] w (dP (a l m) w)
theorem OV (s:List Wz->List Wz->Bool)(V:yc s)(x y:db)(c d:List Value)(Z:gn w B c x)(hy:gn w B d y)(hB:B<=w.heap.size)(n1:x.frm.length<=100000)(n2:y.frm.length<=100000):Calls prog 41 #[.agg c.toArray,.agg d.toArray] w (dP (iy s x y) w):=by
 obtain⟨F,N,G,O,H,P,I,Q,rfl,tf,tm,ts,tt⟩:=ew Z;obtain⟨J,S,K,T,L,ds,M,U,rfl,uf,um,us,ut⟩:=ew hy;obtain⟨W0,qi⟩:=Jj (w.alloc (.cells #[I6 x.prio,.slice F x.frm.length N,.slice G x.mat.length O,.slice H x.sets.length P,.slice I x.dst.length Q] 50 (0,0)));obtain⟨f,j9⟩:=Jj (W0.alloc (.cells #[I6 y.prio,.slice J y.frm.length S,.slice K y.mat.length T,.slice L y.sets.length ds,.slice M y.dst.length U] 50 (0,0)));obtain⟨qy,va,jm,X,Y⟩:=EC qi j9;replace jm:=Hi jm;have z:=Hi λW (a:JJ f W)=>ik ((a.block _ (by omega)).t X);have A:=Hi λW (a:JJ f W)=>ik ((a.block _ (by omega)).t Y);have jl:=Hi λW (a:JJ f W)=>jm.o.t (a.mono (by omega));have j:=Hi λW (a:JJ f W)=>V x.frm y.frm _ _ _ W n1 n2 (tf.below (jl.o W a) hB) (uf.below (jl.o W a) hB) (jl.o W a).size;have c1:=Hi λW (a:JJ f W)=>uS x.mat y.mat _ _ _ W (tm.below (jl.o W a) hB) (um.below (jl.o W a) hB) (jl.o W a).size;have c2:=Hi λW (a:JJ f W)=>No x.sets y.sets _ _ _ W (dZ ts hB (av (jl.o W a) hB)) (dZ us hB (av (jl.o W a) hB)) (jl.o W a).size;have t:=Hi λW (a:JJ f W)=>ov x.dst y.dst _ _ _ W (tt.below (jl.o W a) hB) (ut.below (jl.o W a) hB) (jl.o W a).size;have jk:=Hi λW (a:JJ f W)=>(⟨(z.o W a).1,(z.o W a).2.1,(z.o W a).2.2.1,(z.o W a).2.2.2.1,(z.o W a).2.2.2.2,(A.o W a).1,(A.o W a).2.1,(A.o W a).2.2.1,(A.o W a).2.2.2.1,(A.o W a).2.2.2.2⟩:W.cell? ⟨w.heap.size,0,none⟩=some (I6 x.prio)/\W.cell? ⟨w.heap.size,1,none⟩=some (.slice F x.frm.length N)/\W.cell? ⟨w.heap.size,2,none⟩=some (.slice G x.mat.length O)/\W.cell? ⟨w.heap.size,3,none⟩=some (.slice H x.sets.length P)/\W.cell? ⟨w.heap.size,4,none⟩=some (.slice I x.dst.length Q)/\W.cell? ⟨w.heap.size+1,0,none⟩=some (I6 y.prio)/\W.cell? ⟨w.heap.size+1,1,none⟩=some (.slice J y.frm.length S)/\W.cell? ⟨w.heap.size+1,2,none⟩=some (.slice K y.mat.length T)/\W.cell? ⟨w.heap.size+1,3,none⟩=some (.slice L y.sets.length ds)/\W.cell? ⟨w.heap.size+1,4,none⟩=some (.slice M y.dst.length U));have j8:=Hi (aB f.heap.size f);obtain⟨a0,a1,m,n,o,b0,b1,p,q,r⟩:=jk.o _ j8.o;have b:Hid (iy s x y=((x.prio==y.prio)&&(s x.frm y.frm&&(fc fj x.mat y.mat&&(fc kO x.sets y.sets&&fc bg x.dst y.dst))))):=Hi rfl;generalize iy s x y=R at*;clear Z hy X Y tf tm ts tt uf um us ut V;by_cases hn:x.prio=y.prio;case neg=>have D:(x.prio==y.prio)=false:=beq_eq_false_iff_ne.2 hn;have i:=Hi (show R=false by rw[b.o,D];rfl);clear j c1 c2 t;go_enter func41,ntmps41;go_wp2_with fail;go_ret;exact⟨by rw[i.o];rfl,jl.o _ j8.o⟩
 have D:(x.prio==y.prio)=true:=beq_iff_eq.2 hn;rw[D,az]at b;clear hn;go_enter func41,ntmps41;cases h0:s x.frm y.frm
 .rw[h0]at b j;have i:=Hi (show R=false from b.o);clear c1 c2 t;go_wp2_with((with_reducible refine(j.o _ j8.o).mono ?_);rintro e E ⟨rfl,k⟩;have k0:=(JK j8.o k));go_ret;exact⟨by rw[i.o];rfl,jl.o _ k0⟩
 rw[h0,az]at b;rw[h0]at j;cases h1:fc fj x.mat y.mat
 .rw[h1]at b c1;have i:=Hi (show R=false from b.o);clear c2 t;go_wp2_with(first|((with_reducible refine(c1.o _ k0).mono ?_);rintro e z1 ⟨rfl,u⟩;have h:=(JK k0 u))|((with_reducible refine(j.o _ j8.o).mono ?_);rintro e E ⟨rfl,k⟩;have k0:=JK j8.o k;obtain⟨a0,a1,m,n,o,b0,b1,p,q,r⟩:=jk.o _ k0));go_ret;exact⟨by rw[i.o];rfl,jl.o _ h⟩
 rw[h1,az]at b;rw[h1]at c1;cases h2:fc kO x.sets y.sets
 .rw[h2]at b c2;have i:=Hi (show R=false from b.o);clear t;go_wp2_with(first|((with_reducible refine(c2.o _ h).mono ?_);rintro e z2 ⟨rfl,C⟩;have v:=(JK h C))|((with_reducible refine(c1.o _ k0).mono ?_);rintro e z1 ⟨rfl,u⟩;have h:=JK k0 u;obtain⟨a0,a1,m,n,o,b0,b1,p,q,r⟩:=jk.o _ h)|((with_reducible refine(j.o _ j8.o).mono ?_);rintro e E ⟨rfl,k⟩;have k0:=JK j8.o k;obtain⟨a0,a1,m,n,o,b0,b1,p,q,r⟩:=jk.o _ k0));go_ret;exact⟨by rw[i.o];rfl,jl.o _ v⟩
 rw[h2,az]at b;rw[h2]at c2;go_wp2_with(first|((with_reducible refine(t.o _ v).mono ?_);rintro e z3 ⟨rfl,j3⟩;have k3:=(JK v j3))|((with_reducible refine(c2.o _ h).mono ?_);rintro e z2 ⟨rfl,C⟩;have v:=JK h C;obtain⟨a0,a1,m,n,o,b0,b1,p,q,r⟩:=jk.o _ v)|((with_reducible refine(c1.o _ k0).mono ?_);rintro e z1 ⟨rfl,u⟩;have h:=JK k0 u;obtain⟨a0,a1,m,n,o,b0,b1,p,q,r⟩:=jk.o _ h)|((with_reducible refine(j.o _ j8.o).mono ?_);rintro e E ⟨rfl,k⟩;have k0:=JK j8.o k;obtain⟨a0,a1,m,n,o,b0,b1,p,q,r⟩:=jk.o _ k0));go_ret;exact⟨by rw[b.o];rfl,jl.o _ k3⟩
end
end Go.Proofs.YtgfgoaeaicefcaaGreatDoor
