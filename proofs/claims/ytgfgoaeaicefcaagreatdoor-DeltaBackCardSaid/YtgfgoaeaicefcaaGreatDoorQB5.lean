/- Part of DeltaBack. -/
import Derived.Test.YtgfgoaeaicefcaaGreatDoorQB4
import Derived.Maps.Ext
set_option maxHeartbeats 16000000
set_option maxRecDepth 100000
set_option linter.all false
namespace Go.Proofs.YtgfgoaeaicefcaaGreatDoor
open Go.RowKit Go.Maps
variable {n b0 cap:Nat}{w w' w0 W:Wq}{A:Option Addr}{s:Wz}{k:Int}
abbrev qC (x:Nat×Bool):List Value:=[I6 x.1,.bool x.2]
def ox (p:List (Nat×Bool)):List Value:=(p.map qC).flatten
theorem BA (p:List (Nat×Bool))(x:Nat×Bool):ox (p++[x])=ox p++qC x:=by simp[ox]
structure pV (b0:Nat)(w0 W:Wq)(A:Option Addr)(cap:Nat)(p:List (Nat×Bool))(n:Nat)(f:i8):Prop where
 l:W.heap[b0+1]?=some (.cells #[.slice A p.length cap] 160 (0,0))r:W.ownsRow (b0+4) 164 2 (.slice A p.length cap) p.length (ox p)m:ej W (b0+2) n f
 n:W.heap[b0+3]?=some (.cells #[.map (some (b0+2))] 154 (0,0))b:Below (b0+1) w0 W
def LA (b0:Nat)(w0 W:Wq)(p:List (Nat×Bool))(f:i8):Prop:=∃A cap,pV b0 w0 W A cap p p.length f
section
variable {b0:Nat} {w0 W w':Wq} {A:Option Addr} {cap n:Nat} {p:List (Nat×Bool)} {f f':i8}
theorem pV.lt (h:pV b0 w0 W A cap p n f):b0+3<W.heap.size:=(Array.getElem?_eq_some_iff.1 h.n).1
theorem pV.put (h:pV b0 w0 W A cap p n f)(a:W.grownBy w' (some (b0+2))){i:Nat}(j:ej w' (b0+2) i f'):pV b0 w0 w' A cap p i f' where
 l:=(a.block _ (by have:=h.lt;omega) (by intro e;injection e with e;omega)).t h.l;r:=by
  refine World.ownsRow.kept h.r a ?_;rcases h.r.2 with⟨d,_⟩|⟨g,c,t,d,q,_⟩
  .rw[d];exact .inl rfl
  .rw[d];exact .inr (by intro e;injection e with e;have o:g=b0+2:=e;omega)
 m:=j;n:=(a.block _ h.lt (by intro e;injection e with e;omega)).t h.n;b:=h.b.t (iQ (b0+1) a (by have:=h.lt;omega))
theorem pV.app (h:pV b0 w0 W A cap p n f)(x:Nat×Bool)(o:Obj){g c:Nat}(j9:w'.ownsRow (b0+4) 164 2 (.slice (some ⟨g,0,none⟩) (p.length+1) c) (p.length+1) (ox p++qC x))(j:(W.alloc o).grownBy w' (Value.slice A p.length cap).ownBlock):pV b0 w0 (w'.setCell ⟨b0+1,0,none⟩ (.slice (some ⟨g,0,none⟩) (p.length+1) c)) (some ⟨g,0,none⟩) c (p++[x]) n f:=by
 have jy:=h.lt;have i:∀k,k<b0+4->w'.heap[k]?=W.heap[k]?:=λk a=>by refine(j.block k (by simp;omega) ?_).t (((aB W.heap.size W).alloc Jq o).block k (by omega));intro e;have:=(h.r.alloc o).lt k e.symm;omega
 have r:Below (b0+1) W w':=(Jz.alloc (by omega) o).grown j (by simp;omega) λk a=>by have:=((h.r.alloc o).lt k a).1;omega
 have l:(p++[x]).length=p.length+1:=by simp
 have m:∀k,k≠b0+1->(w'.setCell ⟨b0+1,0,none⟩ (.slice (some ⟨g,0,none⟩) (p.length+1) c)).heap[k]?=w'.heap[k]?:=λk a=>aT _ _ _ k (λe=>a e);refine⟨?_,?_,?_,?_,(h.b.t r).setCell (p:=⟨b0+1,0,none⟩) Jq _⟩
 .rw[l];have:=(i (b0+1) (by omega)).t h.l;exact BC this
 .rw[l,BA];exact bW j9 (by intro e;injection e with e;have u:g=b0+1:=e;have:=(j9.lt g rfl).1;omega) _
 .have q:ej w' (b0+2) n f:=by obtain⟨D,⟨es,d,h1,h2,h3,b⟩,t⟩:=h.m;exact⟨D,⟨es,d,(i _ (by omega)).t h1,h2,h3,b⟩,t⟩
  obtain⟨D,⟨es,d,h1,h2,h3,b⟩,t⟩:=q;exact⟨D,⟨es,d,(m _ (by omega)).t h1,h2,h3,b⟩,t⟩
 .exact(m _ (by omega)).t ((i _ (by omega)).t h.n)
end
theorem pV.cell {p:List (Nat×Bool)}{f:i8}(h:pV b0 w0 W A cap p n f)(o:Obj)(a:(W.alloc o).grownBy w' (Value.slice A p.length cap).ownBlock):w'.heap[b0+1]?=some (.cells #[.slice A p.length cap] 160 (0,0)):=by have jy:=h.lt;refine((a.block (b0+1) (by simp;omega) ?_).t (((aB W.heap.size W).alloc Jq o).block (b0+1) (by omega))).t h.l;intro e;have:=(h.r.alloc o).lt (b0+1) e.symm;omega
def mC (b0:Nat)(w w':Wq):Prop:=∀g a T b,b0+3<g->T≠164->w.heap[g]?=some (.cells a T b)->w'.heap[g]?=some (.cells a T b)
theorem mC.refl (b0:Nat)(w:Wq):mC b0 w w:=λ_ _ _ _ _ _ h=>h
theorem mC.t {e i:Wq}(h:mC b0 w e)(j:mC b0 e i):mC b0 w i:=λg a T b d c l=>j g a T b d c (h g a T b d c l)
theorem mC.put (b:w.grownBy w' (some (b0+2))):mC b0 w w':=λg d T h c _ a=>(b.block g (Array.getElem?_eq_some_iff.1 a).1 (by intro e;injection e with e;omega)).t a
theorem mC.app {p:List (Nat×Bool)}{f:i8}(h:pV b0 w0 W A cap p n f)(o:Obj)(v:Value)(m:(W.alloc o).grownBy w' (Value.slice A p.length cap).ownBlock):mC b0 W (w'.setCell ⟨b0+1,0,none⟩ v):=λg b T d r l i=>by
 have jy:=(Array.getElem?_eq_some_iff.1 i).1;have h1:(W.alloc o).heap[g]?=some (.cells b T d):=(((aB W.heap.size W).alloc Jq o).block g jy).t i;have h2:w'.heap[g]?=some (.cells b T d):=(m.block g (by simp;omega) (by
  intro e;rcases(h.r.alloc o).2 with⟨a,_⟩|⟨j,t,u,a,_,q,_⟩
  .rw[a]at e;cases e
  .rw[a]at e;have c:g=j:=by injection e
   subst c;rw[q]at h1;injection h1 with h1;injection h1 with _ h1 _;exact l h1.symm)).t h1;exact(aT _ _ _ g (λe=>by have c:g=b0+1:=e;omega)).t h2
theorem yP {f:i8}{k0:Nat}{l:List (Wz×Bool)}{j:Nat}{x:Wz×Bool}(h:l[j]?=some x):dR f k0 (l.take (j+1))=zN (dR f k0 (l.take j)) x.1 (k0+j):=by have a:=(List.getElem?_eq_some_iff.1 h).1;rw[ek h,qO,bv,jl (bD a)]
theorem ER:(Tryz.prog.info? 164).map (λi=>(i.zero,i.size,i.bytes))=some (some (.agg #[I6 0,.bool false]),2,16):=by kernel_rfl
theorem zi (x:Nat×Bool):∀u∈qC x,u.oneCell'=true:=by intro u a;simp only[qC,dN,bG,jf]at a;rcases a with rfl|rfl<;>rfl
theorem Ns (b0:Nat)(w0 w:Wq)(p:List (Nat×Bool))(f:i8)(i J jm r off:Nat)(nm:Wz)(s:List Wz)(v:Value)(a:Bool)(h:LA b0 w0 w p f)(hw0:w0.heap.size=b0+1)(hs:dk w0 b0 v s)(hl:p.length+s.length<=1000)(hc:w0.cell? ⟨b0,4,none⟩=some (.slice (some ⟨r,off,none⟩) J jm))(hi:i<J)(hnb:J<=jm)(xs:jm<=9223372036854775807)(zl:r<b0)(hn:w0.cell? ⟨r,off+i*7,none⟩=some (.string nm))(hnm:Sm nm):Calls Tryz.prog 181 #[I6 i,v,.bool a,.pointer (some ⟨b0,0,none⟩),.pointer (some ⟨b0+3,0,none⟩),.pointer (some ⟨b0+1,0,none⟩)] w λe w'=>(∃u,e=.returned u)/\mC b0 w w'/\LA b0 w0 w' (p++s.map λ_=>(i,a)) (dR f p.length (s.map λx=>(ju nm x,a))):=by
 obtain⟨As,caps,rfl,hcs,hsl⟩:=aX.form hs;obtain⟨i0,P,M,N,K⟩:=mc ER;have P:=Hi P;have M:=Hi M;have N:=Hi N;have K:=Hi K;have zb:Hid (LA b0 w0 w (p++(s.take 0).map λ_=>(i,a)) (dR f p.length ((s.map λx=>(ju nm x,a)).take 0))):=Hi (by simpa[dR]using h);have V5:nm.size<=140737488355328:=hnm;replace hs:=Hi hs;clear h;go_enter Tryz.func181,Tryz.ntmps181;go_wp2_with fail;go_loopw [16] (λj wr=>∃k:Nat,k<=s.length/\j=I6 k/\Hid (mC b0 w wr)/\Hid (LA b0 w0 wr (p++(s.take k).map λ_=>(i,a)) (dR f p.length ((s.map λx=>(ju nm x,a)).take k))))(λj _=>s.length-(intOf j).toNat);case atStart=>exact⟨0,aK _,rfl,Hi (mC.refl b0 w),zb⟩
 case round=>
  obtain⟨k,hk,rfl,Z,S⟩:=hrel;obtain⟨m,rfl⟩:=Jv wr;clear zb;by_cases jy:k<s.length
  .obtain⟨H,I,hN⟩:=S.o;have L:=hN.b;have Y:=hs.o.keep (w':=m) Jq λb o h=>av (B:=b0) L (fe _) b o h;obtain⟨b,o,rfl⟩:=aX.addr Y (by omega);obtain⟨hbl,x,T,hxs,e0⟩:=fx Y jy;have c4:m.cell? ⟨b0,4,none⟩=some (.slice (some ⟨r,off,none⟩) J jm):=(L.cell (p:=⟨b0,4,none⟩) (bQ _)).t hc;have c5:m.cell? ⟨r,off+i*7,none⟩=some (.string nm):=(L.cell (p:=⟨r,off+i*7,none⟩) (by show r<b0+1;omega)).t hn;have hicap:i<=jm:=by omega
   obtain⟨c,F⟩:∃c,c=ju nm x:=⟨_,rfl⟩;have U:c.size<=1000000000000000:=by rw[F];unfold ju;simp only[aJ,show M5.size=1 from rfl];omega
   have hfe:nm++⟨#[46]⟩++x=c:=by rw[F];rfl
   have y5:(s.map λx=>(ju nm x,a))[k]?=some (c,a):=by rw[aq,T,F];rfl
   have E:=Hi (yP (f:=f) (k0:=p.length) y5);have O:Hid ((s.take (k+1)).map (λ_=>(i,a))=(s.take k).map (λ_=>(i,a))++[(i,a)]):=Hi (lV T);obtain⟨q,z⟩:∃q,q=p++(s.take k).map λ_=>(i,a):=⟨_,rfl⟩;have x7:q.length=p.length+k:=by rw[z,aC,aa,bv];omega
   obtain⟨d,kh⟩:∃d,d=dR f p.length ((s.map λx=>(ju nm x,a)).take k):=⟨_,rfl⟩;rw[<-z,<-kh]at hN;rw[<-kh]at E;replace z:=Hi z;replace F:=Hi F;have V7:=hN.lt;have l0:m.cell? ⟨b0+3,0,none⟩=some (.map (some (b0+2))):=cz hN.n;have l1:m.cell? ⟨b0+1,0,none⟩=some (.slice H q.length I):=cz hN.l;have hq1:q.length<=1000:=by omega
   have gs1:¬9223372036854775807<nm.size+1:=by omega
   have gs2:¬9223372036854775807<nm.size+1+x.size:=by omega
   clear kh y5 T S Y hc hn L;replace hN:=Hi hN;replace x7:=Hi x7;cases hf:d c with
   |some kk=>
    have C:Hid (zN d c (p.length+k)=d):=Hi (by unfold zN;rw[hf];rfl);have X:=Hi hf;clear hf;have V:Hid (∀W' g jn,pV b0 w0 W' g jn (q++[(i,a)]) q.length d->LA b0 w0 W' (p++(s.take (k+1)).map λ_=>(i,a)) (dR f p.length ((s.map λx=>(ju nm x,a)).take (k+1)))):=Hi λW' g jn h=>by rw[E.o,O.o,<-aH,<-z.o,C.o];exact⟨_,_,h.l,h.r,h.m.mono (by simp),h.n,h.b⟩
    clear E O C;go_wp2_with(first|(at_lookup;refine gj hN.o.m rfl _ _ rfl rfl c rfl U ?_;intro c9 _;rw[X.o])|(at_builtin;refine wpList_append_lies _ rfl (.tmp 41) (.tmp 45) _ rfl (b0+4) 164 i0 _ 2 16 Tryz.underlying160 P.o M.o N.o K.o rfl (by decide) (.slice H q.length I) q.length _ rfl (jQ hN.o.r _) ⟨m.heap.size,0,none⟩ 1 1 (qC (i,a)) rfl rfl (World.news_of_block (aG m _)) (zi _) (by decide) (by unfold maxLen;omega) (by omega) (by simp;omega) (m.heap.size+1) (by simp) ?_;intro g jn w4 D l vd vg;have t:=hN.o.cell _ l;have l4:=cz t;have f4:=BO t;have R:=Hi (hN.o.app (i,a) _ D l);have Q:=Hi (Z.o.t (mC.app hN.o _ (.slice (some ⟨g,0,none⟩) (q.length+1) jn) l));clear D l vd vg t));go_roundw;case rel=>exact⟨k+1,by omega,by go_num,Q,Hi (V.o _ _ _ R.o)⟩
    case measure=>simp[intOf];omega|none=>
    have C:Hid (zN d c (p.length+k)=upd d c ((p.length+k:Nat):Int)):=Hi (by unfold zN;rw[hf];rfl);have X:=Hi hf;clear hf;have V:Hid (∀W' g jn,pV b0 w0 W' g jn (q++[(i,a)]) (q.length+1) (upd d c q.length)->LA b0 w0 W' (p++(s.take (k+1)).map λ_=>(i,a)) (dR f p.length ((s.map λx=>(ju nm x,a)).take (k+1)))):=Hi λW' g jn h=>by rw[E.o,O.o,<-aH,<-z.o,C.o,<-x7.o];exact⟨_,_,h.l,h.r,h.m.mono (by simp),h.n,h.b⟩
    clear E O C;go_wp2_with(first|(at_lookup;refine gj hN.o.m rfl _ _ rfl rfl c rfl U ?_;intro c9 _;rw[X.o])|(at_mapUpdate;(refine Fr hN.o.m rfl _ _ _ rfl rfl c rfl U (by omega) q.length rfl (by omega) ?_;intro G zk q5;have y:=Hi (hN.o.put q5 zk);have Vp:=Hi (Z.o.t (mC.put q5));have l3:G.cell? ⟨b0+1,0,none⟩=some (.slice H q.length I):=cz y.o.l;have Vh:b0+3<G.heap.size:=y.o.lt;clear zk q5))|(at_builtin;refine wpList_append_lies _ rfl (.tmp 41) (.tmp 45) _ rfl (b0+4) 164 i0 _ 2 16 Tryz.underlying160 P.o M.o N.o K.o rfl (by decide) (.slice H q.length I) q.length _ rfl (jQ y.o.r _) ⟨G.heap.size,0,none⟩ 1 1 (qC (i,a)) rfl rfl (World.news_of_block (aG G _)) (zi _) (by decide) (by unfold maxLen;omega) (by omega) (by simp;omega) (G.heap.size+1) (by simp) ?_;intro g jn w4 D l vd vg;have t:=y.o.cell _ l;have l4:=cz t;have f4:=BO t;have R:=Hi (y.o.app (i,a) _ D l);have Q:=Hi (Vp.o.t (mC.app y.o _ (.slice (some ⟨g,0,none⟩) (q.length+1) jn) l));clear D l vd vg t));go_roundw;case rel=>exact⟨k+1,by omega,by go_num,Q,Hi (V.o _ _ _ R.o)⟩
    case measure=>simp[intOf];omega
  .have V6:k=s.length:=by omega
   subst V6;have hF:Hid (LA b0 w0 m (p++s.map λ_=>(i,a)) (dR f p.length (s.map λx=>(ju nm x,a)))):=Hi (by have:=S.o;rw[ah Jq,ah (by rw[aa];exact al _)]at this;exact this);go_wp2_with fail;go_end0;exact⟨⟨_,rfl⟩,Z.o,hF.o⟩
theorem pV.alloc {p:List (Nat×Bool)}{f:i8}(h:pV b0 w0 W A cap p n f)(o:Obj):pV b0 w0 (W.alloc o) A cap p n f:=by have a:=(aB W.heap.size W).alloc Jq o;have jy:=h.lt;exact⟨(a.block _ (by omega)).t h.l,h.r.alloc o,h.m.alloc o,(a.block _ (by omega)).t h.n,h.b.t (a.mono (by omega))⟩
def GV (c:bE)(w:Wq)(e:Ending)(w':Wq):Prop:=∃A cap p,e=.returned (.tuple #[.slice A p.length cap,.map (some (w.heap.size+2))])/\p.map (·.2)=(eK c.boxes).map (·.2)/\w'.ownsRow (w.heap.size+4) 164 2 (.slice A p.length cap) p.length (ox p)/\ej w' (w.heap.size+2) p.length (gO c)/\JJ w w'
theorem Eq (l:List ay)(b:ay):eK (l++[b])=eK l++nY b:=by simp[eK]
theorem nZ:∀(a b:List (Wz×Bool))(f:i8)(k:Nat),dR f k (a++b)=dR (dR f k a) (k+a.length) b|[],b,f,k=>by simp[dR]|x::r,b,f,k=>by rw[aW,dR,nZ r b,dR];congr 1;simp;omega
theorem xn:∀(l:List ay),((eK l).length:Int)=ia ly l|[]=>rfl|b::r=>by have h:=xn r;unfold eK at h⊢;rw[eJ,aC];unfold ia;rw[<-h];simp only[nY,aC,aa,ly];omega
theorem xp (c:bE)(F vb vl vs:Value)(B:Nat)(w:Wq)(h:fE w B c F vb vl vs)(hB:B<=w.heap.size)(qi:(eK c.boxes).length<=1000):Calls Tryz.prog 100 #[.agg (eO c F vb vl vs)] w (GV c w):=by
 obtain⟨J,jm,rfl,xs,q3⟩:=aX.form h.b;obtain⟨a,D⟩:=Jj (w.alloc (lk c F (.slice J c.boxes.length jm) vl vs));have y:a.heap.size=w.heap.size+1:=Jw D;have hX:a.heap[w.heap.size]?=some (lk c F (.slice J c.boxes.length jm) vl vs):=Jy D;have P:=Hi (show JJ w a by exact Jk D);have y9:=Hi (h.b.keep (w':=a) hB (av P.o hB) λ_ _ h=>h.keep hB (av P.o hB));obtain⟨t,I⟩:=Jj (a.alloc (.cells #[.slice none 0 0] 160 (0,0)));have O:t.heap.size=w.heap.size+2:=by rw[<-I];simp[y]
 obtain⟨u,H⟩:=Jj (t.alloc (.map #[] 0));have q6:u.heap.size=w.heap.size+3:=by rw[<-H];simp[O]
 obtain⟨C,M⟩:=Jj (u.alloc (.cells #[.map (some (w.heap.size+2))] 154 (0,0)));have zf:JJ a t:=Jk I;have Q:JJ t u:=Jk H;have E:JJ u C:=Jk M;have L:Hid (pV w.heap.size a C none 0 [] 0 mA):=Hi (by
  refine⟨?_,dF _ _ _ _,?_,?_,?_⟩
  .exact(E.block _ (by omega)).t ((Q.block _ (by omega)).t (by rw[<-y,<-I];exact aG a _))
  .have:=ej.new t;rw[H,O]at this;exact this.below E (by omega)
  .rw[<-q6,<-M];exact aG u _
  .have h1:=zf.t (Q.mono (by omega));have h2:=h1.t (E.mono (by omega));rw[y]at h2;exact h2);have V1:=@zC Tryz.prog;obtain⟨_,_,_,_,G,_,_⟩:=fU hX;have V8:C.cell? ⟨w.heap.size,4,none⟩=some (.slice J c.boxes.length jm):=(L.o.b.cell (p:=⟨w.heap.size,4,none⟩) (bQ _)).t G;have zb:Hid (∃p,p.map (·.2)=(eK (c.boxes.take 0)).map (·.2)/\LA w.heap.size a C p (dR mA 0 (eK (c.boxes.take 0)))):=Hi ⟨[],rfl,_,_,L.o⟩;have v0:=Hi y;clear h hX zf Q E;go_enter Tryz.func100,Tryz.ntmps100;go_wp2_with fail;go_loopw [14] (λi wr=>∃k:Nat,k<=c.boxes.length/\i=I6 k/\Hid (∃p,p.map (·.2)=(eK (c.boxes.take k)).map (·.2)/\LA w.heap.size a wr p (dR mA 0 (eK (c.boxes.take k)))))(λi _=>c.boxes.length-(intOf i).toNat);case atStart=>exact⟨0,aK _,rfl,zb⟩
 case round=>
  obtain⟨k,hk,rfl,K⟩:=hrel;obtain⟨d,rfl⟩:=Jv wr;clear zb L V8 D I H M y O q6;obtain⟨p,m,U⟩:=K.o;have S:p.length=(eK (c.boxes.take k)).length:=by have:=congrArg List.length m;simpa using this
  by_cases jy:k<c.boxes.length
  .obtain⟨r,v,hN⟩:=U;have l:=hN.b;have V7:=hN.lt;obtain⟨b,off,rfl⟩:=aX.addr y9.o (by omega);have vv:=y9.o.keep (w':=d) Jq (λb o h=>av (B:=w.heap.size) l (fe _) b o h) λ_ _ h'=>h'.keep Jq (λb o h=>av (B:=w.heap.size) l (fe _) b o h);obtain⟨zl,cc,x,hx,hc,j⟩:=aX.el vv jy;obtain⟨X,ci,Y,co,V,cg,Z,cr,Aw,cw,Au,cu,rfl,⟨s1,s2,_,_,_,_⟩,Qg,Vd,y3,_⟩:=fD hc;have e0:d.cell? ⟨b,off+k*7,none⟩=some (.string x.name):=j 0 _ rfl;have e1:=j 1 _ rfl;have e2:=j 2 _ rfl;have e3:=j 3 _ rfl;have e4:=j 4 _ rfl;have e5:=j 5 _ rfl;have e6:=j 6 _ rfl;have y4:d.cell? ⟨w.heap.size,4,none⟩=some (.slice (some ⟨b,off,none⟩) c.boxes.length jm):=(l.cell (p:=⟨w.heap.size,4,none⟩) (bQ _)).t G;have N:a.cell? ⟨b,off+k*7,none⟩=some (.string x.name):=(l.cell (p:=⟨b,off+k*7,none⟩) (by show b<w.heap.size+1;omega)).symm.t e0;have kv:=Hi (Vd.keep (w':=a) Jq λb o h=>(av (B:=w.heap.size) l (fe _) b o h).symm);have yh:=Hi (y3.keep (w':=a) Jq λb o h=>(av (B:=w.heap.size) l (fe _) b o h).symm);have z:(eK (c.boxes.take (k+1)))=eK (c.boxes.take k)++nY x:=by rw[ek hx,Eq]
   have Jx:(eK (c.boxes.take (k+1))).length<=(eK c.boxes).length:=by
    have h1:c.boxes=c.boxes.take (k+1)++c.boxes.drop (k+1):=(gS _ _).symm;conv=>rhs;rw[h1]
    unfold eK;rw[jG,aC];omega
   rw[z,aC]at Jx;have kw:(nY x).length=x.ins.length+x.outs.length:=by simp[nY]
   obtain⟨T,j6⟩:=Jj (d.alloc (kR (.string x.name) (.slice X x.ins.length ci) (.slice Y x.outs.length co) (.slice V x.guards.length cg) (.slice Z x.rules.length cr) (.slice Aw x.owns.length cw) (.slice Au x.routes.length cu)));have v3:T.heap[d.heap.size]?=some (kR (.string x.name) (.slice X x.ins.length ci) (.slice Y x.outs.length co) (.slice V x.guards.length cg) (.slice Z x.rules.length cr) (.slice Aw x.owns.length cw) (.slice Au x.routes.length cu)):=Jy j6;have Qi:LA w.heap.size a T p (dR mA 0 (eK (c.boxes.take k))):=⟨r,v,by rw[<-j6];exact hN.alloc _⟩;have c1:=Hi (Ns w.heap.size a T p _ k c.boxes.length jm b off x.name x.ins _ true Qi v0.o kv.o (by omega) G jy xs q3.1 zl N Qg);have c2:=Hi λW f' q (hq:LA w.heap.size a W q f')(hl:q.length+x.outs.length<=1000)=>Ns w.heap.size a W q f' k c.boxes.length jm b off x.name x.outs _ false hq v0.o yh.o hl G jy xs q3.1 zl N Qg;obtain⟨_,r1,r2,_,_,_,_⟩:=au v3;have hl1:p.length+x.ins.length+x.outs.length<=1000:=by omega
   have hF:Hid (p.map (·.2)=(eK (c.boxes.take k)).map (·.2)):=Hi m;have kg:=Hi S;replace z:=Hi z;clear K hN l vv j hc hx Vd y3 Qi m S N Jx kw;have h1000:(p++x.ins.map λ_=>(k,true)).length+x.outs.length<=1000:=by rw[aC,aa];omega
   go_wp2_with(first|(go_at_call 181;refine(c2.o _ _ _ Va.o h1000).mono ?_;rintro e w7 ⟨⟨u7,rfl⟩,_,Q2⟩;have Vy:=Hi Q2;clear Q2 Va)|(go_at_call 181;refine c1.o.mono ?_;rintro e w5 ⟨⟨u5,rfl⟩,Qw,y7⟩;have Vl:=Qw d.heap.size _ _ _ (by omega) (by decide) v3;obtain⟨_,_,q2,_,_,_,_⟩:=au Vl;have Va:=Hi y7;clear Qw y7 Vl c1));go_roundw;case rel=>
    refine⟨k+1,by omega,by go_num,Hi ⟨(p++x.ins.map λ_=>(k,true))++x.outs.map λ_=>(k,false),?_,?_⟩⟩
    .rw[z.o,bK,bK,bK,hF.o];simp[nY,Function.comp_def]
    .have h8:=Vy.o;rw[aC,aa,kg.o]at h8;rw[z.o,nZ,nY,nZ,aY,aa];exact h8
   case measure=>simp[intOf];omega
  .have V2:c.boxes.take k=c.boxes:=ah (by omega);rw[V2]at m U;obtain⟨r,v,hN⟩:=U;have l1:d.cell? ⟨w.heap.size+1,0,none⟩=some (.slice r p.length v):=cz hN.l;have l3:d.cell? ⟨w.heap.size+3,0,none⟩=some (.map (some (w.heap.size+2))):=cz hN.n;have hF:Hid (∀n,GV c w (.returned (.tuple #[.slice r p.length v,.map (some (w.heap.size+2))])) (d.drewN n)):=Hi λn=>by
    have R:=ar (aB d.heap.size d) n;refine⟨r,v,p,rfl,m,?_,hN.m.below R hN.m.lt,(P.o.t (hN.b.mono (fe _))).t (R.mono (by have:=hN.lt;omega))⟩;obtain⟨h1,h2|⟨g,c',vr,hv,hb,hg,hr⟩⟩:=hN.r
    .exact⟨h1,.inl h2⟩
    .exact⟨h1,.inr ⟨g,c',vr,hv,hb,(R.block _ (Array.getElem?_eq_some_iff.1 hg).1).t hg,hr⟩⟩
   clear K hN m S;go_upto_region 10 with fail;go_quiet(fail);go_wp2_with fail;go_ret2;exact hF.o _
theorem tL:∀(l:List (Wz×Bool))(f:i8)(k:Nat)(M:Int),(∀s c,f s=some c->0<=c/\c<M)->(k:Int)+l.length<=M->∀s c,dR f k l s=some c->0<=c/\c<M
 |[],f,k,M,h,_=>h|x::r,f,k,M,h,hM=>by
  rw[aD]at hM;refine tL r (zN f x.1 k) (k+1) M (λs c a=>?_) (by omega);unfold zN at a;split at a
  .exact h s c a
  .unfold upd at a;split at a
   .injection a with a;omega
   .exact h s c a
theorem xh {c:bE}(h:gO c s=some k):0<=k/\k<((eK c.boxes).length:Int):=tL _ _ 0 _ (λ_ _ h=>by cases h) (by omega) s k h
structure yi (w:Wq)(Lb Nb mb jk:Nat)(A:Option Addr)(cap n:Nat)(p:List (Nat×Bool))(f:i8):Prop where
 l:w.cell? ⟨Lb,0,none⟩=some (.slice A p.length cap)q:w.cell? ⟨Nb,0,none⟩=some (.map (some mb))r:w.ownsRow jk 164 2 (.slice A p.length cap) p.length (ox p)m:ej w mb n f
 hf:∀s k,f s=some k->0<=k/\k<(p.length:Int)
theorem yi.keep {d e j jk:Nat}{p:List (Nat×Bool)}{f:i8}(h:yi w d e j jk A cap n p f){b:Nat}(a:∀g,g<b->w'.heap[g]?=w.heap[g]?)(h1:d<b)(h2:e<b)(h3:j<b)(u:∀g,A=some ⟨g,0,none⟩->g<b):yi w' d e j jk A cap n p f where
 l:=by rw[<-h.l];unfold World.cell?;simp only[a _ h1]
 q:=by rw[<-h.q];unfold World.cell?;simp only[a _ h2]
 r:=by
  obtain⟨c,i|⟨g,E,C,x,o,v,hr⟩⟩:=h.r
  .exact⟨c,.inl i⟩
  .injection x with hA hl hc;subst hA hc;exact⟨c,.inr ⟨g,_,C,rfl,o,(a _ (u g rfl)).t v,hr⟩⟩
 m:=by obtain⟨D,⟨es,y,c,i,z,B⟩,t⟩:=h.m;exact⟨D,⟨es,y,(a _ h3).t c,i,z,B⟩,t⟩
 hf:=h.hf
theorem yi.at_ {e i m jk:Nat}{p:List (Nat×Bool)}{f:i8}(h:yi w e i m jk A cap n p f){k:Nat}(d:k<p.length):∃g,A=some ⟨g,0,none⟩/\∃x,p[k]?=some x/\w.cell? ⟨g,k*2+1,none⟩=some (.bool x.2):=by
 obtain⟨r,l⟩:=h.r;rcases l with⟨_,h0⟩|⟨g,q,t,j,hr⟩
 .omega
 .injection j with hA hl b;refine⟨g,hA,p[k],aF d,?_⟩;have o:(⟨g,0,none⟩:Addr).add (k*2+1)=⟨g,k*2+1,none⟩:=by unfold Addr.add;split<;>simp_all
  rw[<-o];have a:=h.r;rw[hA]at a;refine ai a (g:=g) rfl _ _ ?_;exact iP 2 _ (λc b=>by obtain⟨f,_,rfl⟩:=List.mem_map.1 b;rfl) k 1 (qC p[k]) _ (by simp[aF d]) rfl
theorem GB {c:bE}{p:List (Nat×Bool)}(h:p.map (·.2)=(eK c.boxes).map (·.2)){k:Nat}{x:Nat×Bool}(a:p[k]?=some x):Cy (eK c.boxes) (k:Int)=x.2:=by
 have h1:(p.map (·.2))[k]?=some x.2:=by rw[aq,a];rfl
 rw[h,aq]at h1;unfold Cy;rw[eW];cases hy:(eK c.boxes)[k]? with|none=>rw[hy]at h1;cases h1|some y=>rw[hy]at h1;injection h1
theorem Oy (c:bE)(d e t jk cap n:Nat)(A:Option Addr)(p:List (Nat×Bool))(f:i8)(s:Wz)(a:Bool)(w:Wq)(h:yi w d e t jk A cap n p f)(r:p.map (·.2)=(eK c.boxes).map (·.2))(hs:s.size<=1000000000000000)(q:p.length<=cap/\cap<=9223372036854775807):Calls Tryz.prog 101 #[.string s,.bool a,.pointer (some ⟨e,0,none⟩),.pointer (some ⟨d,0,none⟩)] w (jH (oM f (eK c.boxes) s a) w):=by have B:=h.l;have C:=h.q;have i:=Hi h.m;have b:=Hi (aB w.heap.size w);obtain⟨y,z⟩:=q;cases hf:f s with|none=>have H:=Hi (show oM f (eK c.boxes) s a=false by unfold oM;rw[hf]);have hf:=Hi hf;clear h;go_enter Tryz.func101,Tryz.ntmps101;go_wp2_with(at_lookup;refine gj i.o rfl _ _ rfl rfl s rfl hs ?_;intro c _;rw[hf.o]);go_ret;exact eB H.o (by decide) b.o|some kk=>
 obtain⟨h0,h1⟩:=h.hf s kk hf;obtain⟨k,rfl⟩:∃k:Nat,kk=k:=⟨kk.toNat,by omega⟩;obtain⟨g,o,x,l,v⟩:=h.at_ (k:=k) (by omega);subst o;have m:=GB r l;have H:=Hi (show oM f (eK c.boxes) s a=(x.2==a)by unfold oM;rw[hf];show(Cy _ _==a)=_;rw[m]);have hf:=Hi hf;clear h l m;have u:k<p.length:=by omega
 clear h0 h1;generalize x.2=xi at*;cases xi<;>cases a;all_goals go_enter Tryz.func101,Tryz.ntmps101;go_wp2_with(at_lookup;refine gj i.o rfl _ _ rfl rfl s rfl hs ?_;intro c j;obtain rfl:=j k hf.o;clear j;rw[hf.o]);go_ret;first|exact tV (by rw[H.o];rfl) b.o|exact eB (by rw[H.o];rfl) (by decide) b.o
theorem iD {B:Nat}{c:bE}{m vb vl vs:Value}(h:fE w B c m vb vl vs):∃b i a g d j e l,m=.slice b c.fields.length i/\vb=.slice a c.boxes.length g/\vl=.slice d c.links.length j/\vs=.slice e c.slices.length l:=by obtain⟨b,i,h1,_,_⟩:=aX.form h.f;obtain⟨a,g,h2,_,_⟩:=aX.form h.b;obtain⟨d,j,h3,_,_⟩:=aX.form h.l;obtain⟨e,l,o,_,_⟩:=aX.form h.s;exact⟨b,i,a,g,d,j,e,l,h1,h2,h3,o⟩
theorem F3 {a:Value}{b:Lit}(h:keyOf Tryz.prog 9 a=some b):∃s:Wz,a=.string s/\b=.string s.data.toList/\s.size<=maxLen:=by cases a<;>simp[keyOf,Tryz.underlying9,mapKey]at h;rename_i s;obtain⟨h1,h2⟩:=h;exact⟨s,rfl,h2.symm,h1⟩
theorem Aj {a b:Wz}:(Lit.string a.data.toList).sameKey (.string b.data.toList)=decide (a=b):=by
 by_cases h:a=b
 .subst h;rw[aV rfl];exact WideAt.sameKey_self (show WideAt.IsKeyLit (.string _)from trivial)
 .rw[aM h];exact sameKey_ne (xM h)
theorem Je {b:Nat}{f:i8}{d:Array Oper}{e:List Oper}{o:Oper}{a:Act}{Q:Exit->Act->Wq->Prop}(h:ej w b n f)(l:o.guard=none)(m x v:Operand)(r:o.op=Op.mapUpdate 154 m x v)(q:a.eval m=.map (some b))(s:Wz)(y:a.eval x=.string s)(hs:s.size<=maxLen)(B:n<=1000000000000000)(c:Int)(u:a.eval v=I6 c)(j:-9223372036854775808<=c/\c<=9223372036854775807)(i:∀w',ej w' b (n+1) (upd f s c)->w.grownBy w' (some b)->wpList Tryz.prog d Q e (a.put o.dst undef) w'):wpList Tryz.prog d Q (o::e) a w:=by
 obtain⟨D,h,t⟩:=h;exact wpList_mapUpdate_own w l m x v 154 r 9 3 rz Tryz.underlying154 (plainElem Tryz.prog 3) b n D q h (by unfold maxLen;omega) _ _ _ y u (WideMaps.keyOf_string_mk Tryz.underlying9 hs) (.lit (.int .i64 c)) []
  (plainElem_int Tryz.underlying3 (K1 j)) λw' g z=>i w' ⟨_,g,t.put h.isMap s c⟩ z
def qY (f:i8)(l:List (Wz×Bool))(left:Lit->Bool)(g:i8):Prop:=∀s:Wz,g s=match f s with|some k=>if left (.string s.data.toList)||Cy l k then none else some k|none=>none
theorem qY.o {f:i8}{l:List (Wz×Bool)}{left:Lit->Bool}{g:i8}(h:qY f l left g)(a:f s=some k)(hi:Cy l k=false):qY f l (λz=>left z&&!z.sameKey (.string s.data.toList)) (upd g s k):=λt=>by
 unfold upd;by_cases e:t=s
 .subst e;rw[ax rfl,a];simp[hi,Aj]
 .rw[ap e,h t];simp[Aj,e]
theorem qY.inn {f:i8}{l:List (Wz×Bool)}{left:Lit->Bool}{g:i8}(h:qY f l left g)(a:f s=some k)(hi:Cy l k=true):qY f l (λz=>left z&&!z.sameKey (.string s.data.toList)) g:=λt=>by
 by_cases e:t=s
 .subst e;rw[h t,a];simp[hi]
 .rw[h t];simp[Aj,e]
theorem MH (c:bE)(vf vb vl vs:Value)(B:Nat)(w:Wq)(h:fE w B c vf vb vl vs)(hB:B<=w.heap.size)(qi:(eK c.boxes).length<=1000):Calls Tryz.prog 36 #[.agg (eO c vf vb vl vs)] w (ko (ry c) w):=by
 have hl47:c.links.length<=140737488355328:=by obtain⟨_,_,_,_,h⟩:=aX.form h.l;exact h.2
 obtain⟨Af,cf,Ab,cb,Al,cl,As,cs,rfl,rfl,rfl,rfl⟩:=iD h;obtain⟨H,qw⟩:=Jj (w.alloc (lk c (.slice Af c.fields.length cf) (.slice Ab c.boxes.length cb) (.slice Al c.links.length cl) (.slice As c.slices.length cs)));have v1:=Hi (show JJ w H by exact Jk qw);have hX:H.heap[w.heap.size]?=some (lk c (.slice Af c.fields.length cf) (.slice Ab c.boxes.length cb) (.slice Al c.links.length cl) (.slice As c.slices.length cs)):=Jy qw;have q8:w.heap.size<H.heap.size:=by rw[<-qw];simp
 have Vv:=Hi λW (l:JJ H W)=>fU ((l.block _ q8).t hX);have v0:=Hi λW (l:JJ H W)=>v1.o.t (l.mono (bD q8));have cN:=Hi (xp c _ _ _ _ w.heap.size H (h.below v1.o hB) (bD q8) qi);have V3:=Hi λW (l:JJ w W)=>dZ h.l hB (av l hB);have V1:=@zC Tryz.prog;obtain⟨x0,x1,x2,x3,x4,x5,x6⟩:=fU hX;clear h hX;go_enter Tryz.func36,Tryz.ntmps36;go_upto_region 1 with fail;clear qw;go_cut[4,5] (λa b wx=>∃z P jk A cap p,p.length<=cap/\cap<=9223372036854775807/\a=.pointer (some ⟨z,0,none⟩)/\b=.pointer (some ⟨z+1,0,none⟩)/\Hid (yi wx z (z+1) P jk A cap p.length p (gO c))/\Hid (p.map (·.2)=(eK c.boxes).map (·.2))/\Hid (JJ H wx)/\Hid (z+1<wx.heap.size/\P<z/\∀g,A=some ⟨g,0,none⟩->g<z));case first=>
  go_wp2_with(go_at_call 100;refine cN.o.mono ?_;rintro e S ⟨A,cap,p,rfl,X,hr,hm,yx⟩;have Vm:=Hi X;have kt:=Hi hr;have y6:=Hi hm;have k8:=Hi yx;clear X hr hm yx);go_meet;have vt:JJ S (S.alloc (.cells #[.slice A p.length cap] 160 (0,0))):=Jz.alloc Jq _;have zl:=vt.alloc (aI Jq vt.size) (.cells #[.map (some (H.heap.size+2))] 154 (0,0));obtain⟨vc,q7⟩:p.length<=cap/\cap<=9223372036854775807:=by
   rcases kt.o.2 with⟨O,h0⟩|⟨g,c',vr,O,_,_,h1,h2,_⟩
   .injection O with _ _ hc;omega
   .injection O with _ _ hc;subst hc;unfold maxLen at h2;exact⟨h1,by omega⟩
  refine⟨S.heap.size,H.heap.size+2,H.heap.size+4,A,cap,p,vc,q7,rfl,rfl,Hi ⟨?_,?_,?_,?_,?_⟩,Vm,Hi (JK k8.o zl),Hi ⟨by simp,by have:=y6.o.lt;omega,λg C=>?_⟩⟩
  .have h1:(S.alloc (.cells #[.slice A p.length cap] 160 (0,0))).heap[S.heap.size]?=some (.cells #[.slice A p.length cap] 160 (0,0)):=aG S _;exact cz (((((aB (S.alloc (.cells #[.slice A p.length cap] 160 (0,0))).heap.size _).alloc Jq _).block _ (by simp)).t h1))
  .have h1:=aG (S.alloc (.cells #[.slice A p.length cap] 160 (0,0))) (.cells #[.map (some (H.heap.size+2))] 154 (0,0));have h2:=cz h1;simpa using h2
  .exact(kt.o.alloc _).alloc _
  .exact(y6.o.alloc _).alloc _
  .intro s k E;have h1:=xh E;have h2:=congrArg List.length Vm.o;simp only[aa]at h2;omega
  .exact(kt.o.lt g (by rw[C];rfl)).2
 case rest=>
 obtain⟨z,P,jk,A,cap,p,vc,q7,rfl,rfl,hL,X,Vs,Vt⟩:=hcut;obtain⟨j,rfl⟩:=Jv wc;obtain⟨qs,q6,Vh⟩:=Vt.o;have Vw:p.length<=cap/\cap<=9223372036854775807:=⟨vc,q7⟩;obtain⟨D,j9,hT⟩:=hL.o.m;have kw:=Hi (ej.new j);have yw:=j9.alloc (.map #[] 0);have V5:=j9.size_le;have vn:=Hi ((aB j.heap.size j).alloc Jq (.map #[] 0));have kc:=Hi λW (l:JJ j W)=>hL.o.keep (λg C=>l.block g C) (by omega) qs (by omega) (λg C=>by have:=Vh g C;omega);have q1:=((kc.o _ vn.o).q);have yv:=Hi hT;have vz:Hid (p.length=(eK c.boxes).length):=Hi (by have:=congrArg List.length X.o;simpa using this);have hp1000:p.length<=1000:=by have:=vz.o;omega
 clear x0 x1 x2 x3 x4 x5 x6;go_wp2_with(at_range;refine wpList_range_own _ rfl _ 154 rfl 9 3 rz Tryz.underlying154 _ P p.length D rfl yw ?_;intro w6 vo ki Vf);go_frame;have r:Hid (JJ j w6):=Hi (vn.o.grown ki vn.o.size (λk E=>by cases E));have Vk:Hid (ej w6 j.heap.size 0 mA):=Hi (kw.o.kept ki (by simp));have zs:Hid (j.heap.size+1<w6.heap.size):=Hi (by rw[Vf];simp);have I:(j.alloc (.map #[] 0)).heap.size=j.heap.size+1:=by simp
 rw[I]at vo⊢;have Q3:Hid (qY (gO c) (eK c.boxes) (Maps.has D) mA):=Hi λs=>by cases hs:gO c s with|none=>rfl|some k=>simp[mA,(hT s).1,hs]
 have Z:=Hi vo;clear ki Vf vo hT q1 yw j9 I;go_loopw [7] (λ_ wr=>∃left zq N g,Hid (wr.ranges Tryz.prog 9 (plainElem Tryz.prog 3) P (j.heap.size+1) p.length D left zq)/\Hid (N+zq<=Maps.size D)/\Hid (qY (gO c) (eK c.boxes) left g)/\Hid (ej wr j.heap.size N g)/\Hid (JJ j wr)/\Hid (j.heap.size+1<wr.heap.size)) (λ_ wr=>wr.rangeLeft P (j.heap.size+1));case atStart=>exact⟨_,_,0,mA,Z,Hi (by omega),Q3,Vk,r,zs⟩
 case round=>
  obtain⟨left,zq,N,g,Z,z4,hF,hM,L,Q1⟩:=hrel;obtain⟨wo,rfl⟩:=Jv wr;clear Q3 Vk r zs;go_wp2_with(at_next;refine wpList_next_ranges _ rfl _ rfl 9 rz (plainElem Tryz.prog 3) Value.string (Value.int .i64) (λkey kl E=>by obtain⟨s,h,_⟩:=F3 E;exact⟨s,h⟩) (λv y O=>by obtain⟨a,h,_⟩:=plainElem_int_inv Tryz.underlying3 O;exact⟨a,h⟩) P (j.heap.size+1) p.length D left zq rfl Z.o ?_ ?_)
  .intro _ yy;have Vb:Hid (∀s,g s=yM (gO c) (eK c.boxes) s):=Hi λs=>by rw[hF.o s];unfold yM;cases gO c s with|none=>rfl|some k=>simp[yy]
   have Vg:Hid (ej wo j.heap.size N (yM (gO c) (eK c.boxes))):=Hi (by have e:g=yM (gO c) (eK c.boxes):=funext Vb.o;rw[<-e];exact hM.o);have Qu:Hid (ry c=iw (gO c) (eK c.boxes) (yM (gO c) (eK c.boxes)) (c.links.drop 0)):=Hi rfl;generalize yM (gO c) (eK c.boxes)=g0 at*;generalize ry c=R at*;have z9:=Hi λW (l:JJ j W)=>(JK Vs.o l);obtain⟨_,_,_,_,_,x5,_⟩:=Vv.o _ (z9.o _ L.o);have zd:=Hi L.o;clear Vb hF hM z4 yy Z L Q1;go_wp2_with fail;clear x5;go_loopw [42] (λi wr=>∃k:Nat,k<=c.links.length/\i=I6 k/\∃gk,Hid (R=iw (gO c) (eK c.boxes) gk (c.links.drop k))/\Hid (ej wr j.heap.size N gk)/\Hid (JJ j wr))(λi _=>c.links.length-(intOf i).toNat);case atStart=>exact⟨0,aK _,rfl,g0,Qu,Vg,zd⟩
   case round=>
    obtain⟨k,E,rfl,gk,HR,kp,L⟩:=hrel;obtain⟨V,rfl⟩:=Jv wr;clear Qu Vg zd;by_cases jy:k<c.links.length
    .have vv:=V3.o _ (v0.o _ (z9.o _ L.o));obtain⟨b,off,rfl⟩:=aX.addr vv (by omega);obtain⟨_,cc,x,hx,⟨hc,z7,Vn⟩,hj⟩:=aX.el vv jy;subst hc;have e0:V.cell? ⟨b,off+k*3,none⟩=some (.string x.frm):=hj 0 _ rfl;have e1:V.cell? ⟨b,off+k*3+1,none⟩=some (.string x.dst):=hj 1 _ rfl;have e2:V.cell? ⟨b,off+k*3+2,none⟩=some (I6 x.cost):=hj 2 _ rfl;have J:Hid (R=(oM (gO c) (eK c.boxes) x.frm false&&oM (gO c) (eK c.boxes) x.dst true&&decide (1<=x.cost/\x.cost<=9999)&&(gk x.frm).isSome&&iw (gO c) (eK c.boxes) (DE gk x.frm) (c.links.drop (k+1)))):=Hi (by rw[HR.o,fP hx];rfl);have qf:x.frm.size<=1000000000000000:=by unfold Sm at z7;omega
     have qg:x.dst.size<=1000000000000000:=by unfold Sm at Vn;omega
     clear hj vv HR hx;obtain⟨G,I⟩:=Jj (V.alloc (.cells #[.string x.frm,.string x.dst,I6 x.cost] 62 (0,0)));have vt:JJ V G:=Jk I;have Vx:=Hi (JK L.o vt);have v3:G.heap[V.heap.size]?=some (.cells #[.string x.frm,.string x.dst,I6 x.cost] 62 (0,0)):=Jy I;have V9:V.heap.size<G.heap.size:=by rw[<-I];simp
     have F:=Hi λW (l:JJ G W)=>iX ((l.block _ V9).t v3);have Vc:=Hi (kp.o.below vt kp.o.lt);obtain⟨z0,z1,z2⟩:=F.o _ Jz;have yf:=Hi λW (l:JJ G W)=>(JK Vx.o l);have U:=Hi λW (l:JJ G W) n=>ar (v0.o _ (z9.o _ (yf.o W l))) n;have T:=Hi λW (l:JJ G W) s inn (hs:s.size<=1000000000000000)=>Oy c z (z+1) P jk cap p.length A p (gO c) s inn W (kc.o _ (yf.o W l)) X.o hs Vw;have Vj:=Hi (aB G.heap.size G);clear v3 vt kp;cases g1:oM (gO c) (eK c.boxes) x.frm false
     .have u:=Hi (show R=false by rw[J.o,g1];rfl);have c1:=Hi (T.o G Vj.o x.frm false qf);rw[g1]at c1;clear J g1;go_upto_region 14 with(go_at_call 101;refine c1.o.mono ?_;intro e M m;obtain⟨k5,rfl,Q,Ve,d⟩:=pJ m;obtain⟨y0,y1,y2⟩:=F.o _ d;have r:=Hi (U.o _ d);replace Q:=Hi Q;clear d m);clear I;go_quiet(fail);go_wp2_with fail;go_ret2;exact gB u.o Q.o (r.o _)
     have c1:=Hi (T.o G Vj.o x.frm false qf);rw[g1]at c1;cases g2:oM (gO c) (eK c.boxes) x.dst true
     .have u:=Hi (show R=false by rw[J.o,g1,g2];rfl);clear J g1;go_upto_region 17 with(first|(go_at_call 101;refine c2.o.mono ?_;intro e w7 t;obtain⟨k7,rfl,Q,Ve,q⟩:=pJ t;have o:=Hi (JK r.o q);obtain⟨t0,t1,t2⟩:=F.o _ o.o;have K:=Hi (U.o _ o.o);replace Q:=Hi Q;clear q t c2)|(go_at_call 101;refine c1.o.mono ?_;intro e M m;obtain⟨rfl,d⟩:=gm m;obtain⟨y0,y1,y2⟩:=F.o _ d;have r:=Hi d;have c2:=Hi (T.o M d x.dst true qg);rw[g2]at c2;clear d m c1));clear I;go_quiet(fail);go_wp2_with fail;go_ret2;exact gB u.o Q.o (K.o _)
     have Qo:Hid (∀W,JJ G W->ej W j.heap.size N gk):=Hi λW l=>Vc.o.below l Vc.o.lt;by_cases h3:1<=x.cost/\x.cost<=9999;case neg=>
      have u:=Hi (show R=false by rw[J.o,g1,g2,aM h3];rfl);clear J g1;by_cases h31:x.cost<1
      .have d1:decide (x.cost<1)=true:=aV h31;go_upto_region 19 with(first|(go_at_call 101;refine c2.o.mono ?_;intro e w7 t;obtain⟨rfl,q⟩:=gm t;have o:=Hi (JK r.o q);obtain⟨t0,t1,t2⟩:=F.o _ o.o;have K:=Hi (U.o _ o.o);clear q t c2)|(go_at_call 101;refine c1.o.mono ?_;intro e M m;obtain⟨rfl,d⟩:=gm m;obtain⟨y0,y1,y2⟩:=F.o _ d;have r:=Hi d;have c2:=Hi (T.o M d x.dst true qg);rw[g2]at c2;clear d m c1));clear I;go_quiet(fail);go_wp2_with fail;go_ret2;exact gB u.o (by decide) (K.o _)
      .have d1:decide (x.cost<1)=false:=aM h31;have d2:x.cost>9999:=by omega
       go_upto_region 19 with(first|(go_at_call 101;refine c2.o.mono ?_;intro e w7 t;obtain⟨rfl,q⟩:=gm t;have o:=Hi (JK r.o q);obtain⟨t0,t1,t2⟩:=F.o _ o.o;have K:=Hi (U.o _ o.o);clear q t c2)|(go_at_call 101;refine c1.o.mono ?_;intro e M m;obtain⟨rfl,d⟩:=gm m;obtain⟨y0,y1,y2⟩:=F.o _ d;have r:=Hi d;have c2:=Hi (T.o M d x.dst true qg);rw[g2]at c2;clear d m c1));clear I;go_quiet(fail);go_wp2_with fail;go_ret2;exact gB u.o (by decide) (K.o _)
     have d1:decide (x.cost<1)=false:=aM (by omega);have d2:¬(x.cost>9999):=by omega
     cases C:gk x.frm with|none=>have u:=Hi (show R=false by rw[J.o,g1,g2,aV h3,C];rfl);have v7:=Hi C;clear J g1 C;go_upto_region 22 with(first|(go_at_call 101;refine c2.o.mono ?_;intro e w7 t;obtain⟨rfl,q⟩:=gm t;have o:=Hi (JK r.o q);obtain⟨t0,t1,t2⟩:=F.o _ o.o;have K:=Hi (U.o _ o.o);have z6:=Hi (Qo.o _ o.o);clear q t c2)|(go_at_call 101;refine c1.o.mono ?_;intro e M m;obtain⟨rfl,d⟩:=gm m;obtain⟨y0,y1,y2⟩:=F.o _ d;have r:=Hi d;have c2:=Hi (T.o M d x.dst true qg);rw[g2]at c2;clear d m c1)|(at_lookup;refine gj z6.o rfl _ _ rfl rfl x.frm rfl qf ?_;intro c9 _;rw[v7.o]));clear I;go_quiet(fail);go_wp2_with fail;go_ret2;exact gB u.o (by decide) (K.o _)|some kk=>
       have u:=Hi (show R=iw (gO c) (eK c.boxes) (DE gk x.frm) (c.links.drop (k+1))by rw[J.o,g1,g2,aV h3,C];rfl);have v7:=Hi C;clear J g1 C;go_wp2_with(first|(go_at_call 101;refine c2.o.mono ?_;intro e w7 t;obtain⟨rfl,q⟩:=gm t;have o:=Hi (JK r.o q);obtain⟨t0,t1,t2⟩:=F.o _ o.o;have z6:=Hi (Qo.o _ o.o);have K:=Hi (yf.o _ o.o);clear q t c2)|(go_at_call 101;refine c1.o.mono ?_;intro e M m;obtain⟨rfl,d⟩:=gm m;obtain⟨y0,y1,y2⟩:=F.o _ d;have r:=Hi d;have c2:=Hi (T.o M d x.dst true qg);rw[g2]at c2;clear d m c1)|(at_lookup;refine gj z6.o rfl _ _ rfl rfl x.frm rfl qf ?_;intro c9 _;rw[v7.o])|(at_delete;refine MF z6.o rfl _ _ rfl rfl x.frm rfl qf ?_;intro w8 yo y8;have Vu:=Hi yo;have k6:=Hi (K.o.t (iQ j.heap.size y8 K.o.size));clear yo y8));go_roundw;case rel=>exact⟨k+1,by omega,by go_num,_,u,Vu,k6⟩
       case measure=>simp[intOf];omega
    .have u:Hid (R=true):=Hi (by rw[HR.o,fB jy];rfl);have U:=Hi (v0.o _ (z9.o _ L.o));clear HR;go_wp2_with fail;go_ret2;exact BU u.o U.o
  .intro x cc kl yd yp w1 vm za Qr O kj v8 jy kq z7 hen;obtain⟨x',ym,rfl,Vi⟩:=F3 za;injection ym with ym;subst ym;obtain⟨a,ha,Za,Vq⟩:=plainElem_int_inv Tryz.underlying3 O;injection ha with _ ha;subst ha;injection Za with hyd _;subst hyd;obtain⟨k,E⟩:∃k,gO c x=some k:=by have h1:=has_true_of_atKey kj;rw[(yv.o x).1]at h1;exact Option.isSome_iff_exists.1 h1
   have Vr:k=cc:=by have h1:=((yv.o x).2 k E .nil).symm.t (kj .nil);injection h1 with h1;injection h1
   subst Vr;obtain⟨Q,Ve⟩:=xh E;obtain⟨kn,rfl⟩:∃kn:Nat,k=kn:=⟨k.toNat,by omega⟩;have Vo:kn<p.length:=by have:=vz.o;omega
   have zx:=Hi (L.o.t (iQ j.heap.size kq L.o.size));have kr:=kc.o _ zx.o;obtain⟨gb,hA,e,he,e1⟩:=kr.at_ Vo;have l1:=kr.l;subst hA;have Y:=GB X.o he;have ys:=Hi (hM.o.kept kq (by intro h;injection h with h;omega));have v9:=Hi (show j.heap.size+1<w1.heap.size by rw[z7];exact Q1.o);have ql:=Hi v8;have zp:=Hi Z.o;have hcnt:=Hi jy;have x9:=Hi Vi;have zn:=Hi E;have j8:Hid (vm<zq):=Hi jy;clear za Qr O kj v8 jy kq z7 kr Z Vq Vi hM L;have q9:N<=1000000000000000:=by have:=z4.o;omega
   cases hx2:e.2
   .rw[hx2]at Y e1;have kd:=Hi (hF.o.o zn.o Y);clear Y E;go_wp2_with(at_mapUpdate;(refine Je ys.o rfl _ _ _ rfl rfl x rfl x9.o q9 kn rfl (by omega) ?_;intro w3 zk q5;have Vz:=Hi zk;have hb4:=Hi (zx.o.t (iQ j.heap.size q5 zx.o.size));have zm:=Hi (ql.o.kept q5 (by intro h;injection h with h;omega) (by intro h;injection h with h;omega));have hz4:=Hi (bZ v9.o q5.size);clear zk q5));go_roundw;case rel=>exact⟨_,vm,zm,N+1,Hi (by have:=z4.o;have:=j8.o;omega),_,kd,Vz⟩
    case measure=>rw[zm.o.left_eq,zp.o.left_eq];exact j8.o
   .rw[hx2]at Y e1;have kd:=Hi (hF.o.inn zn.o Y);clear Y E;go_wp2_with fail;go_roundw;case rel=>exact⟨_,vm,N,_,ql,Hi (by have:=z4.o;have:=j8.o;omega),kd,ys,zx,v9⟩
    case measure=>rw[ql.o.left_eq,zp.o.left_eq];exact j8.o
end Go.Proofs.YtgfgoaeaicefcaaGreatDoor
