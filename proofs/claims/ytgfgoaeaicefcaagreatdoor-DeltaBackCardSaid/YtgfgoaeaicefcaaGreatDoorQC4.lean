/- Part of DeltaBack. -/
import Derived.Test.YtgfgoaeaicefcaaGreatDoorQC3
set_option maxHeartbeats 16000000
set_option maxRecDepth 100000
set_option linter.all false
namespace Go.Proofs.YtgfgoaeaicefcaaGreatDoor
open Go.RowKit Tryz
variable {k B c:Nat}{w:Wq}{s:Wz}{inn:Bool}{A:Option Addr}
theorem ES:∀(l m:List Wz),l.Nodup->(∀s∈l,s∈m)->l.length<=m.length|[],_,_,_=>aK _|x::r,m,hn,hs=>by rw[jm]at hn;have a:=hs x bT;have h1:=ES r (m.filter λs=>!decide (s=x)) hn.2 λs hr=>List.mem_filter.2 ⟨hs s (bU _ hr),by have:s≠x:=λe=>hn.1 (by rw[<-e];exact hr);simp[this]⟩;have h2:(m.filter λs=>!decide (s=x)).length<m.length:=List.length_filter_lt_length_iff_exists.2 ⟨x,a,by simp⟩;simp only[aD];omega
theorem CD {f:i8}{t:Wz}{k:Int}(h:(upd f s k t).isSome=true):t=s\/(f t).isSome=true:=by
 unfold upd at h;by_cases e:t=s
 .exact .inl e
 .rw[ap e]at h;exact .inr h
theorem uV:∀(l:List Wz)(f:i8)(k:Nat)(s:Wz),(iZ f k l s).isSome=true->(f s).isSome=true\/s∈l
 |[],_,_,_,h=>.inl h|x::r,f,k,s,h=>by
  unfold iZ at h;rcases uV r _ _ _ h with h|h
  .rcases CD h with rfl|h
   .exact .inr bT
   .exact .inl h
  .exact .inr (bU _ h)
theorem sB:∀(l:List (Wz×Bool))(f:i8)(k:Nat)(s:Wz),(dR f k l s).isSome=true->(f s).isSome=true\/s∈l.map (·.1)
 |[],_,_,_,h=>.inl h|x::r,f,k,s,h=>by
  unfold dR at h;rcases sB r _ _ _ h with h|h
  .unfold zN at h;split at h
   .exact .inl h
   .rcases CD h with rfl|h
    .exact .inr (by simp)
    .exact .inl h
  .exact .inr (by rw[bP];exact bU _ h)
theorem zc {f:i8}{n:Nat}(h:mS f n s inn=true):(f s).isSome=true:=by unfold mS at h;cases e:f s with|none=>rw[e]at h;cases h|some k=>rfl
theorem xS {f:i8}{l:List (Wz×Bool)}(h:oM f l s inn=true):(f s).isSome=true:=by unfold oM at h;cases e:f s with|none=>rw[e]at h;cases h|some k=>rfl
theorem sr {jf:List Wz}(h:(jf.any λq=>decide (q=s))=false):s∉jf:=λa=>by rw[Dx]at h;exact h s a (by simp)
theorem xR {f:i8}{n:Nat}:∀(l jf:List Wz),eE f n inn jf l=true->(∀s∈l,(f s).isSome=true/\s∉jf)/\l.Nodup
 |[],_,_=>⟨λs h=>(bG h).elim,fF⟩|x::r,jf,h=>by
  unfold eE at h;simp only[aS,bz]at h;obtain⟨⟨h1,h2⟩,h3⟩:=h;obtain⟨a,b⟩:=xR r _ h3;refine⟨λs hs=>?_,List.nodup_cons.2 ⟨λd=>(a x d).2 (by simp),b⟩⟩;rcases List.mem_cons.1 hs with rfl|hs
  .exact⟨zc h1,sr h2⟩
  .exact⟨(a s hs).1,λd=>(a s hs).2 (eI _ d)⟩
theorem Cw {f:i8}:∀(l jf:List Wz),pG f jf l=true->(∀s∈l,(f s).isSome=true/\s∉jf)/\l.Nodup
 |[],_,_=>⟨λs h=>(bG h).elim,fF⟩|x::r,jf,h=>by
  unfold pG at h;simp only[aS,bz]at h;obtain⟨⟨h1,h2⟩,h3⟩:=h;obtain⟨a,b⟩:=Cw r _ h3;refine⟨λs hs=>?_,List.nodup_cons.2 ⟨λd=>(a x d).2 (by simp),b⟩⟩;rcases List.mem_cons.1 hs with rfl|hs
  .exact⟨h1,sr h2⟩
  .exact⟨(a s hs).1,λd=>(a s hs).2 (eI _ d)⟩
theorem C2:∀(l jf:List Wz),me jf l=true->jb l
 |[],_,_=>λs h=>(bG h).elim|x::r,jf,h=>by
  unfold me at h;simp only[aS]at h;intro s hs;rcases List.mem_cons.1 hs with rfl|hs
  .exact h.1.1
  .exact C2 r _ h.2 s hs
theorem Cj:∀(l:List ay)(jf:List Wz),iv jf l=true->∀b∈l,bo b.name=true/\jb (b.ins++b.outs)
 |[],_,_=>λs h=>(bG h).elim|x::r,jf,h=>by
  unfold iv at h;simp only[aS]at h;intro b a;rcases List.mem_cons.1 a with rfl|a
  .exact⟨h.1.1.1,C2 _ _ h.1.2⟩
  .exact Cj r _ h.2 b a
theorem tP {α:Type}{P:List α->α->Bool}:∀(l jf:List α),fT P jf l=true->∀x∈l,∃s,P s x=true
 |[],_,_=>λs h=>(bG h).elim|x::r,jf,h=>by
  unfold fT at h;rw[aS]at h;intro b a;rcases List.mem_cons.1 a with rfl|a
  .exact⟨_,h.1⟩
  .exact tP r _ h.2 b a
theorem xL {g:ay->Int}(d:∀b,0<=g b):∀(l:List ay),0<=ia g l/\∀b∈l,g b<=ia g l
 |[]=>⟨Int.le_refl _,λ_ h=>(bG h).elim⟩|x::r=>by
  obtain⟨h1,h2⟩:=xL d r;have:=d x;unfold ia;refine⟨by omega,λb a=>?_⟩;rcases List.mem_cons.1 a with rfl|a
  .omega
  .have:=h2 b a;omega
theorem AJ:∀(l:List ay),((eK l).length:Int)=ia ly l|[]=>rfl|x::r=>by have:=AJ r;unfold eK at*;rw[eJ,aC];unfold ia;rw[<-this];unfold ly nY;rw[aC,aa,aa];omega
theorem JP {f:List dO}(hf:nz f=true)(hr:∀g∈f,lD g.name=false):∀(l jf:List iV),lT f jf l=true->∀x∈l,bo x.field=true/\0<=x.value/\x.value<=4294967295
 |[],_,_=>λs h=>(bG h).elim|x::r,jf,h=>by
  unfold lT at h;rw[aS]at h;intro b d;rcases List.mem_cons.1 d with rfl|d
  .have h1:=h.1;split at h1;case h_2=>cases h1
   rename_i g e;simp only[aS,bC]at h1;obtain⟨⟨h2,_⟩,h3,q⟩:=h1;obtain⟨p,a,m⟩:=tN h2;rw[e]at a;injection a with a;subst a;have i:=aE e;obtain⟨o,_,_,b1,j⟩:=(oS hf).2.1 g i;have:=jd (b:=g.bits) (by omega) j;refine⟨?_,h3,by omega⟩;unfold bo;rw[<-m,o,hr g i];rfl
  .exact JP hf hr r _ h.2 b d
structure NS (b:ay):Prop where
 nm:bo b.name=true
 ins:jb b.ins/\b.ins.length<=48
 outs:jb b.outs/\b.outs.length<=48
 grd:b.guards.length<=64/\∀u∈b.guards,N0 u
 rul:b.rules.length<=64/\∀r∈b.rules,zO r
 own:b.owns.length<=64/\∀o∈b.owns,vI o
 rou:b.routes.length<=64/\∀o∈b.routes,vI o
structure RY (c:bE):Prop where
 box:c.boxes.length<=16/\∀b∈c.boxes,NS b
 lnk:c.links.length<=48/\∀x∈c.links,NW x
 slc:c.slices.length<=8/\∀s∈c.slices,NU s
theorem Ct {f:i8}{l:List (Wz×Bool)}:∀(r:List eQ)(d:i8),iw f l d r=true->∀x∈r,(f x.frm).isSome=true/\(f x.dst).isSome=true/\1<=x.cost/\x.cost<=9999
 |[],_,_=>λs h=>(bG h).elim|x::r,d,h=>by
  unfold iw at h;simp only[aS,bC]at h;obtain⟨⟨⟨⟨h1,h2⟩,h3⟩,g⟩,e⟩:=h;intro b a;rcases List.mem_cons.1 a with rfl|a
  .exact⟨xS h1,xS h2,h3⟩
  .exact Ct r _ e b a
theorem Fk {c:bE}{f:i8}{j:Nat}{jf:List dc}{p:dc}(hf:nz c.fields=true)(e:∀s,(f s).isSome=true->bo s=true)(h:gh c f j jf p=true):vI p:=by
 unfold gh at h;simp only[aS,bC]at h;obtain⟨⟨⟨_,h1,h2,h3,m,_⟩,_⟩,a⟩:=h;have d:qT c<=32:=by
  unfold qT;split
  .rename_i g i;exact((oS hf).2.1 g (aE i)).2.2.2.2
  .decide
 refine⟨⟨h3,?_⟩,⟨h1,by omega⟩,e _ (zc a)⟩;have:=jd (b:=qT c) (by omega) d;unfold ix at this;omega
theorem BN {c:bE}(i:∀b∈c.boxes,bo b.name=true/\jb (b.ins++b.outs))(h:(gO c s).isSome=true):nu s:=by
 rcases sB _ _ _ _ h with h|h
 .cases h
 .rw[pZ]at h;obtain⟨x,a,rfl⟩:=h;unfold eK at a;rw[List.mem_flatMap]at a;obtain⟨b,g,a⟩:=a;obtain⟨e,f⟩:=i b g;unfold nY at a;rw[jn,pZ,pZ]at a;rcases a with⟨q,d,rfl⟩|⟨q,d,rfl⟩
  .exact⟨b.name,q,e,f q (eI _ d),rfl⟩
  .exact⟨b.name,q,e,f q (jy _ d),rfl⟩
theorem kQ {c:bE}(h:jE c=true):RY c:=by
 unfold jE at h;simp only[aS]at h;obtain⟨⟨⟨⟨⟨m,j⟩,Y⟩,F⟩,V⟩,hs⟩:=h;unfold oW at m;simp only[aS]at m;obtain⟨⟨⟨_,hf⟩,hr⟩,_⟩:=m;have q5:∀g∈c.fields,lD g.name=false:=λg a=>by rw[fL]at hr;simpa using hr g a
 unfold kP at j;rw[bC]at j;obtain⟨c1,c2,G,H,I,J,K⟩:=j;have p0:∀b,0<=ly b:=λb=>by unfold ly;omega
 have l0:∀b,0<=qI b:=λb=>by unfold qI;omega
 have r0:∀b,0<=qH b:=λb=>by unfold qH;omega
 have t0:∀b,0<=nI b:=λb=>by unfold nI;omega
 have i:=Cj _ _ Y;have vm:∀b∈c.boxes,tj c (kF b) b=true:=by unfold pH at F;rwa[fL]at F
 refine⟨⟨c1,λb d=>?_⟩,⟨J,λx hx=>?_⟩,⟨K,λs X=>?_⟩⟩
 .obtain⟨n1,z⟩:=i b d;have a:∀s,(kF b s).isSome=true->bo s=true:=λs h=>by
   rcases uV _ _ _ _ h with h|h
   .cases h
   .exact z s h
  have vn:∀s,(kF b s).isSome=true->s∈b.ins++b.outs:=λs h=>by
   rcases uV _ _ _ _ h with h|h
   .cases h
   .exact h
  have M:=(xL p0 c.boxes).2 b d;have N:=(xL l0 c.boxes).2 b d;have O:=(xL r0 c.boxes).2 b d;have P:=(xL t0 c.boxes).2 b d;unfold ly at M c2;unfold qI at N G;unfold qH at O H;unfold nI at P I;have C:=vm b d;unfold tj at C;simp only[aS]at C;obtain⟨⟨⟨E,Q⟩,R⟩,S⟩:=C;rw[fL]at E;refine⟨n1,⟨λs h=>z s (eI _ h),by omega⟩,⟨λs h=>z s (jy _ h),by omega⟩,⟨by omega,λu Z=>?_⟩,⟨by omega,λr hr=>?_⟩,⟨by omega,λo p=>?_⟩,⟨by omega,λo p=>?_⟩⟩
  .have:=E u Z;unfold nX at this;rw[aS]at this;exact⟨a _ this.1,EY this.2⟩
  .obtain⟨jf,h⟩:=tP _ _ Q r hr;unfold nH at h;simp only[aS,bC]at h;obtain⟨⟨⟨⟨⟨⟨h1,_⟩,h2⟩,h3⟩,f⟩,T⟩,U⟩:=h;obtain⟨e,D⟩:=xR _ _ h2;obtain⟨s3,s4⟩:=xR _ _ U;have t:=ES r.frm (b.ins++b.outs) D λs hs=>vn s (e s hs).1;rw[aC]at t;unfold Ce at f;simp only[aS,bC]at f;exact⟨h1,⟨λs hs=>a s (e s hs).1,by omega⟩,EY h3,⟨f.1.1,JP hf q5 _ _ f.2⟩,⟨λs hs=>a s (s3 s hs).1,T⟩⟩
  .obtain⟨jf,h⟩:=tP _ _ R o p;exact Fk hf a h
  .obtain⟨jf,h⟩:=tP _ _ S o p;exact Fk hf a h
 .have:=Ct _ _ V x hx;exact⟨BN i this.1,BN i this.2.1,this.2.2⟩
 .obtain⟨jf,h⟩:=tP _ _ hs s X;unfold rm at h;simp only[aS]at h;obtain⟨⟨⟨h1,_⟩,h2⟩,h3⟩:=h;obtain⟨e,D⟩:=Cw _ _ h2;have t:=ES s.ports ((eK c.boxes).map (·.1)) D λq y=>by
   rcases sB _ _ _ _ (e q y).1 with h|h
   .cases h
   .exact h
  rw[aa]at t;have:=AJ c.boxes;exact⟨h1,λq y=>BN i (e q y).1,by omega,EY h3⟩
end Go.Proofs.YtgfgoaeaicefcaaGreatDoor
namespace Go.Proofs.YtgfgoaeaicefcaaGreatDoor
open Go.RowKit Go.Maps
variable {k B c:Nat}{w:Wq}{s:Wz}{inn:Bool}{A:Option Addr}
theorem J9 {c:bE}(h:oW c=true):nz c.fields=true:=by unfold oW at h;simp only[aS]at h;exact h.1.1.2
theorem Me {c:bE}(h:oW c=true):¬c.routing=ByteArray.empty->0<=fN c.fields c.routing:=by
 intro h0;unfold oW at h;simp only[aS,bz,Bool.or_eq_false_iff]at h;have h1:=h.2.1;rw[aM h0]at h1;have h2:decide (fN c.fields c.routing<0)=false:=by simpa using h1
 have:=of_decide_eq_false h2;omega
theorem yV {c:bE}(h:kP c=true):(eK c.boxes).length<=1000:=by unfold kP at h;have h1:=(dC h).2.1;have:=xn c.boxes;omega
theorem DI (c:bE):jE c=(oW c&&kP c&&rv c&&pH c&&ry c&&oq c):=rfl
theorem PL {g:Nat}{b d e f i j:Value}{t:TypeId}{a:Nat×Nat}(h:w.heap[g]?=some (.cells #[b,d,e,f,i,j] t a)):w.cell? ⟨g,0,none⟩=some b/\w.cell? ⟨g,1,none⟩=some d/\w.cell? ⟨g,2,none⟩=some e/\w.cell? ⟨g,3,none⟩=some f/\w.cell? ⟨g,4,none⟩=some i/\w.cell? ⟨g,5,none⟩=some j:=by refine⟨?_,?_,?_,?_,?_,?_⟩<;>rw[aA w g _ _ t a h]<;>rfl
theorem Fu (c:bE)(vf vb vl vs:Value)(B:Nat)(w:Wq)(h:fE w B c vf vb vl vs)(hB:B<=w.heap.size)(E:gu w)(q6:NY c):Calls Tryz.prog 8 #[.agg (eO c vf vb vl vs)] w (ko (jE c) w):=by
 obtain⟨Af,cf,Ab,cb,Al,cl,As,cs,rfl,rfl,rfl,rfl⟩:=iD h;obtain⟨z,Q⟩:=Jj (w.alloc (lk c (.slice Af c.fields.length cf) (.slice Ab c.boxes.length cb) (.slice Al c.links.length cl) (.slice As c.slices.length cs)));have q7:z.heap.size=w.heap.size+1:=Jw Q;have j8:JJ w z:=Jk Q;have hX:z.heap[w.heap.size]?=some (lk c (.slice Af c.fields.length cf) (.slice Ab c.boxes.length cb) (.slice Al c.links.length cl) (.slice As c.slices.length cs)):=Jy Q;obtain⟨g,T⟩:=Jj (z.alloc (.cells #[.func (.func 32) #[] #[],.func (.func 33) #[] #[],.func (.func 34) #[] #[],.func (.func 35) #[] #[],.func (.func 36) #[] #[],.func (.func 37) #[] #[]] 53 (0,0)));have vr:g.heap.size=w.heap.size+2:=by rw[<-T];simp[q7]
 have j3:JJ z g:=Jk T;have hY:g.heap[w.heap.size+1]?=some (.cells #[.func (.func 32) #[] #[],.func (.func 33) #[] #[],.func (.func 34) #[] #[],.func (.func 35) #[] #[],.func (.func 36) #[] #[],.func (.func 37) #[] #[]] 53 (0,0)):=by rw[<-q7,<-T];exact aG z _
 have f:=Hi λW (a:JJ g W)=>(j8.t (j3.mono (by omega))).t (a.mono (by omega:w.heap.size<=g.heap.size));have C:=Hi λW (a:JJ g W)=>fU ((a.block w.heap.size (by omega)).t ((j3.block w.heap.size (by omega)).t hX));have D:=Hi λW (a:JJ g W)=>PL ((a.block (w.heap.size+1) (by omega)).t hY);have hC:=Hi λW (a:JJ g W)=>h.below (f.o W a) hB;have U:=Hi (aB g.heap.size g);obtain⟨m,o,p,q,r,t,x⟩:=C.o _ U.o;obtain⟨f0,_,_,_,_,_⟩:=D.o _ U.o;have y:=Hi (DI c);generalize jE c=R at*;replace E:=Hi E;replace q6:=Hi q6;clear h hX hY j8 j3 vr;go_enter Tryz.func8,Tryz.ntmps8;go_wp2_with fail;clear Q T q7;refine bF 7 ?_;have F:=Hi ((λW a=>Oq c _ _ _ _ w.heap.size W (hC.o W a) (f.o W a).size) g U.o:Calls Tryz.prog 32 _ g (ko (oW c) g));have qa:=Hi λW (a:JJ g W)=>(JK U.o a);cases g0:oW c
 .have i:=Hi (show R=false by rw[y.o,g0];rfl);rw[g0]at F;rw[an];go_wp2_with(go_at_call 32;refine F.o.mono ?_;intro e K b;obtain⟨k,s,rfl,jk,J,d⟩:=BV b;have j:=Hi (f.o _ (qa.o _ d));replace jk:=Hi jk;clear d b);go_ret2;exact gB i.o jk.o j.o
 rw[g0]at F;rw[an];go_wp2_with(go_at_call 32;refine F.o.mono ?_;intro e K b;obtain⟨s0,rfl,d⟩:=tQ b;have V:=Hi (qa.o _ d);clear d b F f0 m o p q r t x;obtain⟨_,f1,_,_,_,_⟩:=D.o _ V.o;obtain⟨m,o,p,q,r,t,x⟩:=C.o _ V.o);have c1:=Hi ((λW a=>Jm c _ _ _ _ w.heap.size W (hC.o W a) (f.o W a).size) K V.o:Calls Tryz.prog 33 _ K (ko (kP c) K));have qo:=Hi λW (a:JJ K W)=>(JK V.o a);cases g1:kP c
 .have i:=Hi (show R=false by rw[y.o,g0,g1];rfl);rw[g1]at c1;rw[an];go_wp2_with(go_at_call 33;refine c1.o.mono ?_;intro e M b;obtain⟨k,s,rfl,jk,J,d⟩:=BV b;have j:=Hi (f.o _ (qo.o _ d));replace jk:=Hi jk;clear d b);go_ret2;exact gB i.o jk.o j.o
 rw[g1]at c1;rw[an];go_wp2_with(go_at_call 33;refine c1.o.mono ?_;intro e M b;obtain⟨s1,rfl,d⟩:=tQ b;have S:=Hi (qo.o _ d);clear d b c1 f1 m o p q r t x;obtain⟨_,_,f2,_,_,_⟩:=D.o _ S.o;obtain⟨m,o,p,q,r,t,x⟩:=C.o _ S.o);have c2:=Hi ((λW a=>MG c _ _ _ _ w.heap.size W (hC.o W a) (f.o W a).size) M S.o:Calls Tryz.prog 34 _ M (ko (rv c) M));have qr:=Hi λW (a:JJ M W)=>(JK S.o a);cases g2:rv c
 .have i:=Hi (show R=false by rw[y.o,g0,g1,g2];rfl);rw[g2]at c2;rw[an];go_wp2_with(go_at_call 34;refine c2.o.mono ?_;intro e N b;obtain⟨k,s,rfl,jk,J,d⟩:=BV b;have j:=Hi (f.o _ (qr.o _ d));replace jk:=Hi jk;clear d b);go_ret2;exact gB i.o jk.o j.o
 rw[g2]at c2;rw[an];go_wp2_with(go_at_call 34;refine c2.o.mono ?_;intro e N b;obtain⟨s2,rfl,d⟩:=tQ b;have Y:=Hi (qr.o _ d);clear d b c2 f2 m o p q r t x;obtain⟨_,_,_,f3,_,_⟩:=D.o _ Y.o;obtain⟨m,o,p,q,r,t,x⟩:=C.o _ Y.o);have G:=Hi ((λW a=>MI c _ _ _ _ w.heap.size W (hC.o W a) (f.o W a).size (E.o.below (f.o W a)) q6.o (J9 g0) (Me g0)) N Y.o:Calls Tryz.prog 35 _ N (ko (pH c) N));have qb:=Hi λW (a:JJ N W)=>(JK Y.o a);cases g3:pH c
 .have i:=Hi (show R=false by rw[y.o,g0,g1,g2,g3];rfl);rw[g3]at G;rw[an];go_wp2_with(go_at_call 35;refine G.o.mono ?_;intro e O b;obtain⟨k,s,rfl,jk,J,d⟩:=BV b;have j:=Hi (f.o _ (qb.o _ d));replace jk:=Hi jk;clear d b);go_ret2;exact gB i.o jk.o j.o
 rw[g3]at G;rw[an];go_wp2_with(go_at_call 35;refine G.o.mono ?_;intro e O b;obtain⟨s3,rfl,d⟩:=tQ b;have Z:=Hi (qb.o _ d);clear d b G f3 m o p q r t x;obtain⟨_,_,_,_,f4,_⟩:=D.o _ Z.o;obtain⟨m,o,p,q,r,t,x⟩:=C.o _ Z.o);have H:=Hi ((λW a=>MH c _ _ _ _ w.heap.size W (hC.o W a) (f.o W a).size (yV g1)) O Z.o:Calls Tryz.prog 36 _ O (ko (ry c) O));have j6:=Hi λW (a:JJ O W)=>(JK Z.o a);cases g4:ry c
 .have i:=Hi (show R=false by rw[y.o,g0,g1,g2,g3,g4];rfl);rw[g4]at H;rw[an];go_wp2_with(go_at_call 36;refine H.o.mono ?_;intro e P b;obtain⟨k,s,rfl,jk,J,d⟩:=BV b;have j:=Hi (f.o _ (j6.o _ d));replace jk:=Hi jk;clear d b);go_ret2;exact gB i.o jk.o j.o
 rw[g4]at H;rw[an];go_wp2_with(go_at_call 36;refine H.o.mono ?_;intro e P b;obtain⟨s4,rfl,d⟩:=tQ b;have X:=Hi (j6.o _ d);clear d b H f4 m o p q r t x;obtain⟨_,_,_,_,_,f5⟩:=D.o _ X.o;obtain⟨m,o,p,q,r,t,x⟩:=C.o _ X.o);have I:=Hi ((λW a=>Jf c _ _ _ _ w.heap.size W (hC.o W a) (f.o W a).size (E.o.below (f.o W a)) (yV g1)) P X.o:Calls Tryz.prog 37 _ P (ko (oq c) P));have j9:=Hi λW (a:JJ P W)=>(JK X.o a);cases g5:oq c
 .have i:=Hi (show R=false by rw[y.o,g0,g1,g2,g3,g4,g5];rfl);rw[g5]at I;rw[an];go_wp2_with(go_at_call 37;refine I.o.mono ?_;intro e w7 b;obtain⟨k,s,rfl,jk,J,d⟩:=BV b;have j:=Hi (f.o _ (j9.o _ d));replace jk:=Hi jk;clear d b);go_ret2;exact gB i.o jk.o j.o
 rw[g5]at I;rw[an];go_wp2_with(go_at_call 37;refine I.o.mono ?_;intro e w7 b;obtain⟨s5,rfl,d⟩:=tQ b;have vd:=Hi (j9.o _ d);clear d b I f5 m o p q r t x);have i:=Hi (show R=true by rw[y.o,g0,g1,g2,g3,g4,g5];rfl);rw[an];go_wp2_with fail;go_ret2;exact BU i.o (f.o _ vd.o)
end Go.Proofs.YtgfgoaeaicefcaaGreatDoor
namespace Go.Proofs.YtgfgoaeaicefcaaGreatDoor
open Go.RowKit Tryz
variable {k B c:Nat}{w:Wq}{s:Wz}{inn:Bool}{A:Option Addr}
def nE (a b:bE):Bool:=jE a&&(jE b&&((a.title.toList==b.title.toList)&&((a.routing.toList==b.routing.toList)&&((a.slim==b.slim)&&fc iK a.fields b.fields))))
def noBox (x:ay):Wz:=ba [110,111,32,98,111,120,32]++x.name
def adBox (x:ay):Wz:=ba [98,111,120,32]++x.name
def bare (x:ay):ay:=⟨x.name,[],[],[],[],[],[]⟩
def su (x:ay):List Wz:=[adBox x]++ti De (bare x) x
def Nv (a b:List ay):Bool:=match a[0]?,b[0]? with|some x,some y=>x.name.toList==y.name.toList|_,_=>false
def ja:List ay->List ay->Nat|x::r,y::s=>if x.name.toList==y.name.toList then ja r s+1 else 0|_,_=>0
def qD (p:ay×ay):List Wz:=ti De p.1 p.2
def nV (x:eQ):Wz:=ba [110,111,32,108,105,110,107,32]++x.frm
def lM (x:eQ):Wz:=fi (fo [] [x] []) 0
def pD (x:dE):Wz:=ba [110,111,32,115,108,105,99,101,32]++x.name
def lX (x:dE):Wz:=fi (fo [] [] [x]) 0
def qR (a b:bE)(k:Nat):List Wz:=(((a.boxes.drop k).map noBox++((a.boxes.zip b.boxes).take k).flatMap qD)++(b.boxes.drop k).flatMap su)++(fb ij nV lM a.links b.links++fb gp pD lX a.slices b.slices)
def eP (a b:bE):List Wz:=if nE a b=true then qR a b (ja a.boxes b.boxes)else[]
theorem Ek (a b:List ay)(k:Nat):ja (a.drop k) (b.drop k)=if Nv (a.drop k) (b.drop k)=true then ja (a.drop (k+1)) (b.drop (k+1))+1 else 0:=by
 have h1:∀(l:List ay)(k:Nat),l.drop (k+1)=(l.drop k).drop 1:=λl k=>by rw[kV]
 rw[h1 a,h1 b];generalize a.drop k=l;generalize b.drop k=m;cases l with|nil=>rfl|cons x r=>cases m with|nil=>rfl|cons y s=>rfl
theorem O6 {a b:List ay}{x y:ay}(d:a[k]?=some x)(e:b[k]?=some y):Nv (a.drop k) (b.drop k)=(x.name.toList==y.name.toList):=by unfold Nv;rw[fZ,fZ,eG,d,e]
theorem wg {a b:List ay}(h:a.length<=k\/b.length<=k):Nv (a.drop k) (b.drop k)=false:=by
 unfold Nv;rw[fZ,fZ,eG];rcases h with h|h
 .rw[dL h]
 .rw[dL h];split<;>first|rfl|(rename_i h2;cases h2)
theorem O5 {a b:List ay}(h:Nv (a.drop k) (b.drop k)=true):k<a.length/\k<b.length:=by
 refine⟨?_,?_⟩<;>refine Nat.lt_of_not_le λd=>?_
 .rw[wg (.inl d)]at h;cases h
 .rw[wg (.inr d)]at h;cases h
theorem th {x y:ay}(a:NS x)(b:NS y):(ti De x y).length<=800:=by have h1:=xY x y;have h2:=vZ x y;have h3:=jr (iy De) (kJ x) (lL x) x.rules y.rules;have p:=jr fX (pP x) (qU x) x.owns y.owns;have q:=jr fX (lU x) (mJ x) x.routes y.routes;have d:=a.ins.2;have e:=a.outs.2;have f:=a.grd.1;have g:=b.grd.1;have h:=a.rul.1;have i:=b.rul.1;have j:=a.own.1;have m:=b.own.1;have o:=a.rou.1;have r:=b.rou.1;unfold ti;rw[aC,aC,aC,aC];omega
theorem ww {x:ay}(h:NS x):NS (bare x):=⟨h.nm,⟨λs h=>(bG h).elim,aK _⟩,⟨λs h=>(bG h).elim,aK _⟩,⟨aK _,λs h=>(bG h).elim⟩,⟨aK _,λs h=>(bG h).elim⟩,⟨aK _,λs h=>(bG h).elim⟩,⟨aK _,λs h=>(bG h).elim⟩⟩
theorem qN {α:Type}(f:α->List Wz)(n:Nat):∀(l:List α),(∀x∈l,(f x).length<=n)->(l.flatMap f).length<=n*l.length|[],_=>aK _|x::r,h=>by have h1:=qN f n r λy a=>h y (bU _ a);have h2:=h x bT;rw[eJ,aC,aD,Nat.mul_succ];omega
theorem yO {α:Type}{f:α->List Wz}{l:List α}{x:α}(h:l[k]?=some x):(l.take (k+1)).flatMap f=(l.take k).flatMap f++f x:=by rw[ep,h];simp
theorem Jd {α β:Type}{f:α->β}{l:List α}{x:α}(h:l[k]?=some x):(l.take (k+1)).map f=(l.take k).map f++[f x]:=by rw[ep,h];simp
theorem N7 {a b:List ay}{x y:ay}(d:a[k]?=some x)(e:b[k]?=some y):(a.zip b)[k]?=some (x,y):=by rw[List.getElem?_zip_eq_some];exact⟨d,e⟩
theorem qL (size:Nat):∀(a:List (List Value)),(∀c∈a,c.length=size)->a.flatten.length=a.length*size|[],_=>by simp|d::a,h=>by rw[dh,aC,qL size a λc b=>h c (bU _ b),h d bT,aD,jU];omega
theorem aX.tail {α:Type}{size:Nat}{R:Wq->Nat->List Value->α->Prop}{l:List α}(h:aX size R w B (.slice A l.length c) l)(I:k<=l.length):aX size R w B (.slice (A.map λx=>x.add (k*size)) (l.drop k).length (c-k)) (l.drop k):=by
 obtain⟨a,z,hs,⟨G,H,E,h1,h2,h3,q⟩,r⟩:=h;injection E with e1 e2 e3;subst e1 e3;have F:∀d∈a.take k,d.length=size:=λd e=>hs d (ff e);have o:∀d∈a.drop k,d.length=size:=λd e=>hs d (eH e);have f:=qL size _ F;have g:=qL size _ o;rw[bv]at f;rw[bH]at g;have p:a.flatten=(a.take k).flatten++(a.drop k).flatten:=by rw[<-AV,gS]
 refine⟨a.drop k,by rw[bH,bH];omega,o,⟨_,_,rfl,by rw[bH];omega,⟨by omega,by rw[bH];omega⟩,by rw[g,bH,z],λC=>?_⟩,λi d x e m=>?_⟩
 .rw[bH]at C;obtain⟨b,off,rfl,t,y⟩:=q (by omega);refine⟨b,off+k*size,by simp[Addr.add],t,λj u D=>?_⟩;rw[eM];refine y _ u ?_;rw[p,dy (by rw[f,jl (by omega)];omega),f,jl (by omega),eu];exact D
 .rw[fZ]at e m;exact r _ d x e m
theorem Gp {α:Type}{size:Nat}{R:Wq->Nat->List Value->α->Prop}{l:List α}(e:l.length=0)(b:c<=9223372036854775807):aX size R w B (.slice A l.length c) l:=by obtain rfl:=og e;exact⟨[],rfl,λd a=>by simp at a,⟨A,c,rfl,aK _,⟨b,aK _⟩,by simp,λh=>absurd h (lw 0)⟩,λi d x a _=>by simp at a⟩
theorem Hw (A:Option Addr)(n c k:Nat)(a:k<=n)(w:Wq):(Instr.sliceAt 23 (.slice A n c) (some (I6 (k:Int))) none none).run prog w=.ok (.slice (if c=k then A else A.map λx=>x.add (k*7)) (n-k) (c-k)) w:=by
 have h:prog.underlying 23=some (.slice (prog.elem 23)):=by kernel_rfl
 have hs:∀w,(sizeOf (prog.elem 23)).run prog w=.ok 7 w:=λw=>by kernel_rfl
 rw[Gt (h:=h),run_slice_l (ht:=h) (h0:=by omega) (h1:=by omega),hs];simp[sliced,Result.andThen]
theorem yZ {l:List ay}(h:aX 7 jB w B (.slice A l.length c) l)(f:k<=l.length):∃b d,Hid (aX 7 jB w B (.slice b (l.drop k).length d) (l.drop k))/\∀w,(Instr.sliceAt 23 (.slice A l.length c) (some (I6 (k:Int))) none none).run prog w=.ok (.slice b (l.drop k).length d) w:=by
 refine⟨if c=k then A else A.map λx=>x.add (k*7),c-k,Hi ?_,λw=>by rw[Hw A _ c k f,bH]⟩;by_cases e:c=k
 .rw[ax e];obtain⟨_,_,a,h1,h2,_⟩:=aX.form h;injection a with _ _ a;subst a;exact Gp (by rw[bH];omega) (by omega)
 .rw[ap e];exact aX.tail h f
theorem CZ {base a:Nat}{v:Value}{l:List Wz}(h:di w base v l)(b:a<=base):di w a v l:=by
 refine⟨h.1,?_⟩;rcases h.2 with d|⟨g,cap,i,e,j,f⟩
 .exact .inl d
 .exact .inr ⟨g,cap,i,e,aI b j,f⟩
theorem Gs (B:Nat):uC 13 #[] ij B:=λW x y c d a b _=>OZ x y c d a b
theorem EO (B:Nat):rI 18 #[] gp B:=λW x y c d b e a=>Lm x y c d b e a
theorem vV (a g:Nat)(o:Obj):eV a (iB a g o):=λ_ _ h k=>h.keep k
theorem EF (a b:List eQ)(d vb:Value)(B:Nat)(w0 w:Wq)(L:List Wz)(f:aX 3 fQ w B d a)(g:aX 3 fQ w B vb b)(hB:B<=w0.heap.size)(E:gu w0)(i:∀x∈b,NW x)(h:mK w0 w0.heap.size L w)(k:iB w0.heap.size (w0.heap.size+1) (.cells #[.pointer (some ⟨w0.heap.size,0,none⟩)] 55 (0,0)) w)(e:L.length+(a.length+b.length)<=1000000):Calls prog 12 #[d,vb,.func (.func 13) #[] #[],.func (.func 14) #[] #[.pointer (some ⟨w0.heap.size+1,0,none⟩)],.func (.func 15) #[] #[.pointer (some ⟨w0.heap.size+1,0,none⟩)]] w (bR w0 w0.heap.size (L++fb ij nV lM a b) w):=Le a b d vb _ _ _ #[] _ _ _ ij nV lM B w0 w w0.heap.size L (λa w=>by kernel_rfl) (λa w=>by kernel_rfl) (λa w=>by kernel_rfl) (Gs B) f g hB h k (vV _ _ _) (Kw _ _ B w0 _ a) (Kz _ _ B w0 _ b E Jq hB i) e
theorem CF (a b:List dE)(d vb:Value)(B:Nat)(w0 w:Wq)(L:List Wz)(f:aX 3 da w B d a)(g:aX 3 da w B vb b)(hB:B<=w0.heap.size)(E:gu w0)(i:∀x∈b,NU x)(h:mK w0 w0.heap.size L w)(k:iB w0.heap.size (w0.heap.size+1) (.cells #[.pointer (some ⟨w0.heap.size,0,none⟩)] 55 (0,0)) w)(e:L.length+(a.length+b.length)<=1000000):Calls prog 17 #[d,vb,.func (.func 18) #[] #[],.func (.func 19) #[] #[.pointer (some ⟨w0.heap.size+1,0,none⟩)],.func (.func 20) #[] #[.pointer (some ⟨w0.heap.size+1,0,none⟩)]] w (bR w0 w0.heap.size (L++fb gp pD lX a b) w):=In a b d vb _ _ _ #[] _ _ _ gp pD lX B w0 w w0.heap.size L (λa w=>by kernel_rfl) (λa w=>by kernel_rfl) (λa w=>by kernel_rfl) (EO B) f g hB h k (vV _ _ _) (H9 _ _ B w0 _ a) (IB _ _ B w0 _ b E Jq hB i) e
theorem FW {x y:ay}{cx d:List Value}{w0:Wq}{L:List Wz}(e:jB w B cx x)(f:jB w B d y)(hB:B<=w0.heap.size)(h:mK w0 w0.heap.size L w)(E:gu w0)(b:NS x)(a:NS y)(z:L.length<=80000):Calls prog 11 #[.pointer (some ⟨w0.heap.size,0,none⟩),.agg cx.toArray,.agg d.toArray] w (bR w0 w0.heap.size (L++ti De x y) w):=by have g:=b.ins.2;have i:=b.outs.2;have j:=b.grd.1;have m:=a.grd.1;have o:=b.rul.1;have p:=a.rul.1;have q:=b.own.1;have r:=a.own.1;have t:=b.rou.1;have C:=a.rou.1;exact Qf De QV x y cx d B w0 w w0.heap.size L e f hB h E Jq b.nm a.grd.2 ⟨a.ins.1,aI a.ins.2 (by decide)⟩ ⟨a.outs.1,aI a.outs.2 (by decide)⟩ b.rul.2 a.rul.2 b.own.2 a.own.2 b.rou.2 a.rou.2 (by omega)
structure mL (w0:Wq)(L:List Wz)(W:Wq):Prop where
 s:mK w0 w0.heap.size L W
 m:iB w0.heap.size (w0.heap.size+1) (.cells #[.pointer (some ⟨w0.heap.size,0,none⟩)] 55 (0,0)) W
section
variable {w0 W W':Wq} {L L':List Wz}
theorem mL.moved (h:mL w0 L W)(hs:mK w0 w0.heap.size L' W')(a:dB w0.heap.size W W'):mL w0 L' W':=⟨hs,h.m.keep a⟩
theorem mL.below (h:mL w0 L W)(a:JJ W W'):mL w0 L W':=h.moved (h.s.below a) (dB.of_below h.s.lt a)
theorem mL.ptr (h:mL w0 L W):W.cell? ⟨w0.heap.size+1,0,none⟩=some (.pointer (some ⟨w0.heap.size,0,none⟩)):=cz h.m.1
theorem mL.start (w0:Wq):mL w0 [] ((w0.alloc (.cells #[.slice none 0 0] 57 (0,0))).alloc (.cells #[.pointer (some ⟨w0.heap.size,0,none⟩)] 55 (0,0))):=by have b0:JJ w0 (w0.alloc (.cells #[.slice none 0 0] 57 (0,0))):=Jz.alloc Jq _;have hs:mK w0 w0.heap.size [] (w0.alloc (.cells #[.slice none 0 0] 57 (0,0))):=⟨⟨_,aG w0 _,dF _ _ _ _⟩,b0⟩;have b1:Below (w0.alloc (.cells #[.slice none 0 0] 57 (0,0))).heap.size (w0.alloc (.cells #[.slice none 0 0] 57 (0,0))) ((w0.alloc (.cells #[.slice none 0 0] 57 (0,0))).alloc (.cells #[.pointer (some ⟨w0.heap.size,0,none⟩)] 55 (0,0))):=Jz.alloc Jq _;refine⟨hs.below b1,?_⟩;have:=hs.mine (o:=(.cells #[.pointer (some ⟨w0.heap.size,0,none⟩)] 55 (0,0))) Jz;rw[wK]at this;exact this
end
section
variable {w w' W W':Wq} {base n:Nat} {v u:Value} {l:List Wz} {xs:List Value}
theorem Lp (t ty e:TypeId)(i:TypeInfo)(z:Value)(ht:prog.underlying t=some (.slice e))(hi:prog.info? e=some i)(I:i.zero=some z)(hs:i.size=1)(Q:z.cells.size=1)(o:w.ownsRow base e 1 v n xs)(a:Addr)(m c:Nat)(f:List Value)(hl:f.length=m)(hm:0<m)(x:∀j u,f[j]?=some u->w.cell? (a.add j)=some u)(h1:∀u∈f,u.oneCell'=true)(F:n+m<=maxLen)(H:(n+m)*i.bytes<=140737488355328)(O:base<=w.heap.size):∃g cap w',(Builtin.append_ #[t,t] ty #[v,.slice (some a) m c]).run prog w=.ok (.slice (some ⟨g,0,none⟩) (n+m) cap) w'/\w'.ownsRow base e 1 (.slice (some ⟨g,0,none⟩) (n+m) cap) (n+m) (xs++f)/\w.grownBy w' v.ownBlock/\(v.ownBlock=some g\/g=w.heap.size)/\(∀b,v.ownBlock=some b->∀j u,xs[j]?=some u->w'.cell? ⟨b,j,none⟩=some u):=by
 obtain⟨U,w',hr,E,T,_,M⟩:=Gu (P:=prog) w base t ty e i z 1 i.bytes ht hi I hs rfl Q (by decide) v n xs o a m c f (by omega) x h1 F H O;obtain⟨g,cap,rfl⟩:∃g cap,U=.slice (some ⟨g,0,none⟩) (n+m) cap:=by
  rcases E.2 with⟨_,h0⟩|⟨g,cap,_,h,_⟩
  .omega
  .exact⟨g,cap,h⟩
 refine⟨g,cap,w',hr,E,T,by rcases M with e|e;exact .inl e.symm;exact .inr (by simpa[Value.ownBlock]using e),λb r j u C=>?_⟩;have K:(⟨b,0,none⟩:Addr).add j=⟨b,j,none⟩:=by unfold Addr.add;split<;>simp_all
 rcases M with q|q
 .have:=ai E (g:=b) (q.t r) j u (by rw[ee (List.getElem?_eq_some_iff.1 C).1];exact C);rwa[K]at this
 .have hg:g=w.heap.size:=by simpa[Value.ownBlock]using q
  rcases o.2 with⟨rfl,_⟩|⟨d,D,R,rfl,vc,J,hnc,Z,V,htake⟩
  .simp[Value.ownBlock]at r
  .have S:d=b:=by simpa[Value.ownBlock]using r
   subst S;have X:=(Array.getElem?_eq_some_iff.1 J).1;by_cases hroom:n+m<=D
   .have y:=run_append_room (P:=prog) w t ty e i ht hi d n D R J a m c f (by rw[hs];omega) x h1 hroom (by rw[hs,V];omega);have p:=(Dk (y.symm.t hr)).1;have N:=(NZ p).1;have Y:d=g:=by simpa using N
    omega
   .have y:=run_append_grow (P:=prog) w t ty e i z ht hi I ⟨d,0,none⟩ n D xs (by rw[hs];have:=o.1;omega) (ai o rfl) a m c f (by rw[hs];omega) x (by omega) (by simp only[maxLen]at F;omega) (growslice_fits (by omega) H);have p:=(Dk (y.symm.t hr)).2;subst p;have G:=ai o (g:=d) rfl j u C;rw[K]at G;rw[dH (a:=⟨d,j,none⟩) (w:=w) (dg w.drew _ (show d<w.drew.heap.size from X))];exact G
theorem OD {r:Array Oper}{q:List Oper}{o:Oper}{a:Act}{Q:Exit->Act->Wq->Prop}{T e:TypeId}{p:Nat}(E:GZ T e p)(M:o.guard=none)(s x:Operand)(R:o.op=.call {callee:=.builtin .append,args:=#[s,x],argTypes:=#[T,T]})(base:Nat)(v:Value)(n:Nat)(xs:List Value)(hs:a.eval s=v)(S:w.ownsRow base e 1 v n xs)(f:Addr)(m c:Nat)(d:List Value)(U:a.eval x=.slice (some f) m c)(N:d.length=m)(O:0<m)(P:∀j u,d[j]?=some u->w.cell? (f.add j)=some u)(h1:∀u∈d,u.oneCell'=true)(D:n+m<=maxLen)(J:(n+m)*p<=140737488355328)(I:base<=w.heap.size)(H:Nat)(F:w.heap.size=H)(h:∀g cap w',w'.ownsRow base e 1 (.slice (some ⟨g,0,none⟩) (n+m) cap) (n+m) (xs++d)->w.grownBy w' v.ownBlock->(v.ownBlock=some g\/g=H)->(∀b,v.ownBlock=some b->∀j u,xs[j]?=some u->w'.cell? ⟨b,j,none⟩=some u)->wpList prog r Q q (a.put o.dst (.slice (some ⟨g,0,none⟩) (n+m) cap)) w'):wpList prog r Q (o::q) a w:=by subst F;obtain⟨i,z,h2,h3,t,y,C⟩:=E.hi;subst y;refine wpList_plain M λK G=>?_;obtain⟨g,cap,w',hr,V,X,Y,Z⟩:=Lp (w:=w) T o.type e i z E.ht h2 h3 t C S f m c d N O P h1 D J I;unfold Oper.wp execOp;simp only[R,resolve,invoke,builtin,rQ,rP,jA,kj,bP,eg,hs,U,hr];exact G _ _ (h g cap w' V X Y Z)
theorem Gz {e:TypeId}(h:w.ownsRow base e 1 v n xs)(d:∀g,v.ownBlock=some g->w'.heap[g]?=w.heap[g]?):w'.ownsRow base e 1 v n xs:=by
 refine⟨h.1,?_⟩;rcases h.2 with f|⟨g,cap,j,rfl,a,b,i⟩
 .exact .inl f
 .exact .inr ⟨g,cap,j,rfl,a,(d g rfl).t b,i⟩
end
end Go.Proofs.YtgfgoaeaicefcaaGreatDoor
