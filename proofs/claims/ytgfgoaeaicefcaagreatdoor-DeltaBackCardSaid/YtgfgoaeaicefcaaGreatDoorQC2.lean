/- Part of DeltaBack. -/
import Derived.Test.YtgfgoaeaicefcaaGreatDoorQC1
set_option maxHeartbeats 16000000
set_option maxRecDepth 100000
set_option linter.all false
namespace Go.Proofs.YtgfgoaeaicefcaaGreatDoor
open Go.RowKit Tryz
theorem vh:∀(l:List Wz),(l.map λx=>[Value.string x]).flatten=l.map Value.string|[]=>rfl|x::r=>by simp[vh r]
theorem ol {w:Wq}{base:Nat}{v:Value}{l:List Wz}(h:di w base v l)(hs:∀x∈l,Sm x)(f:l.length<=1000000):dk w w.heap.size v l:=by
 refine⟨l.map λx=>[Value.string x],by simp,by simp,?_,?_⟩
 .rw[vh];rcases h.2 with⟨rfl,h0⟩|⟨g,cap,k,rfl,_,d,h1,h2,_⟩
  .have:l=[]:=List.length_eq_zero_iff.1 h0;subst this;exact⟨none,0,rfl,al _,⟨by decide,by simp⟩,by simp,λh=>absurd h (lw 0)⟩
  .refine⟨_,cap,rfl,h1,⟨by unfold maxLen at h2;omega,by omega⟩,by simp,λ_=>⟨g,0,rfl,(Array.getElem?_eq_some_iff.1 d).1,λj u e=>?_⟩⟩;rw[aY];exact kD h e
 .intro i c x a b;rw[aq,b]at a;injection a with a;exact⟨a.symm,hs x (aE b)⟩
structure wM (Sb base:Nat)(v:Value)(l:List Wz)(W:Wq):Prop where
 r:di W base v l
 o:∀g,v.ownBlock=some g->g≠Sb/\¬LK Sb W g
section
variable {w0 W W':Wq} {Sb base:Nat} {v:Value} {l L:List Wz}
theorem wM.keep (h:wM Sb base v l W)(f:dB Sb W W'):wM Sb base v l W':=by
 obtain⟨⟨h1,h2⟩,i⟩:=h;rcases h2 with h2|⟨g,cap,o,rfl,d,a,h3⟩
 .refine⟨⟨h1,.inl h2⟩,λg a=>?_⟩;obtain⟨rfl,_⟩:=h2;simp[Value.ownBlock]at a
 .obtain⟨b,m⟩:=i g rfl;obtain⟨j,k⟩:=f g _ a b m;refine⟨⟨h1,.inr ⟨g,cap,o,rfl,d,j,h3⟩⟩,λc n=>?_⟩;have e:g=c:=by injection n
  exact e▸⟨b,k⟩
theorem wM.nil (W:Wq)(Sb base:Nat):wM Sb base (.slice none 0 0) [] W:=⟨dF W base _ 1,λg a=>by simp[Value.ownBlock]at a⟩
theorem kM (h:mK w0 Sb L W)(hr:wM Sb base v l W)(n:Sb<base)(d:W.grownBy W' v.ownBlock):mK w0 Sb L W'/\∀g,LK Sb W' g↔LK Sb W g:=by
 have i:=h.lt;have m:some Sb≠v.ownBlock:=λe=>(hr.o Sb e.symm).1 rfl;have c:=d.block Sb i m;obtain⟨u,f,j⟩:=h.c;refine⟨⟨⟨u,c.t f,j.kept d ?_⟩,h.b.grown d (bD i) λk e=>?_⟩,λg=>?_⟩
 .cases hq:u.ownBlock with|none=>exact .inl rfl|some g=>exact .inr λe=>(hr.o g e.symm).2 ⟨u,_,_,f,hq⟩
 .have:=(hr.r.lt k e).1;omega
 .constructor
  .rintro⟨a,T,b,h1,h2⟩;exact⟨a,T,b,c.symm.t h1,h2⟩
  .rintro⟨a,T,b,h1,h2⟩;exact⟨a,T,b,c.t h1,h2⟩
theorem Cz (h:mK w0 Sb L W)(hr:wM Sb base v l W)(d:Sb<base)(a:W.grownBy W' v.ownBlock){w:Wq}(k:w.heap.size<=base)(f:dB Sb w W):dB Sb w W':=by intro g o b j i;obtain⟨h1,h2⟩:=f g o b j i;have m:=(Array.getElem?_eq_some_iff.1 b).1;exact⟨(a.block g (Array.getElem?_eq_some_iff.1 h1).1 λe=>by have:=(hr.r.lt g e.symm).1;omega).t h1,λc=>h2 (((kM h hr d a).2 g).1 c)⟩
theorem yI (h:mK w0 Sb L W)(hr:wM Sb base v l W)(d:Sb<base)(b:W.grownBy W' v.ownBlock){n:Nat}{o:Obj}(f:n<base)(a:iB Sb n o W):iB Sb n o W':=⟨(b.block n (Array.getElem?_eq_some_iff.1 a.1).1 λe=>by have:=(hr.r.lt n e.symm).1;omega).t a.1,a.2.1,λc=>a.2.2 (((kM h hr d b).2 n).1 c)⟩
theorem Eo (h:mK w0 Sb L W)(hr:wM Sb base v l W)(b:Sb<base)(c:W.grownBy W' v.ownBlock){g:Nat}(m:v.ownBlock=some g\/g=W.heap.size){u:Value}{d:List Wz}(k:u.ownBlock=some g)(j:di W' base u d):wM Sb base u d W':=by
 refine⟨j,λi f=>?_⟩;obtain rfl:g=i:=by rw[k]at f;injection f
 have n:=h.lt;rcases m with e|e
 .exact⟨(hr.o g e).1,λa=>(hr.o g e).2 (((kM h hr b c).2 g).1 a)⟩
 .exact⟨by omega,λa=>h.not_own (.inr (by omega)) (((kM h hr b c).2 g).1 a)⟩
end
def ga:List Wz->List gP->List Wz|gl,[]=>gl|gl,u::r=>ga (if gl.any (bg u.port)=true then gl else gl++[u.port]) r
theorem yJ:∀(l:List gP)(gl:List Wz)(u:gP),ga gl (l++[u])=if(ga gl l).any (bg u.port)=true then ga gl l else ga gl l++[u.port]|[],gl,u=>rfl|x::r,gl,u=>yJ r _ u
theorem Ep {l:List gP}{k:Nat}{u:gP}(h:l[k]?=some u):ga [] (l.take (k+1))=if(ga [] (l.take k)).any (bg u.port)=true then ga [] (l.take k)else ga [] (l.take k)++[u.port]:=by rw[ep,h];exact yJ _ _ _
theorem qq:∀(l:List gP)(gl:List Wz),(ga gl l).length<=gl.length+l.length
 |[],gl=>al _|u::r,gl=>by
  refine aI (qq r _) ?_;split
  .rw[aD];omega
  .rw[aC,aD,aD,aL];omega
theorem C0:∀(l:List gP)(gl:List Wz),(∀x∈gl,Sm x)->(∀u∈l,Sm u.port)->∀x∈ga gl l,Sm x
 |[],gl,h,_=>h|u::r,gl,h,hl=>by
  refine C0 r _ ?_ λy b=>hl y (by simp[b]);split
  .exact h
  .intro x a;rcases List.mem_append.1 a with a|a
   .exact h x a
   .rw[List.mem_singleton.1 a];exact hl u (by simp)
def jg (x:ay)(q:Wz):Wz:=((ba [110,111,32,97,116,32]++x.name)++ba [32,103,117,97,114,100,32])++q
def ji (x:ay)(u:gP):Wz:=ib ⟨x.name,[],[],[u],[],[],[]⟩
def ii (x y:ay):List Wz:=if fc fJ x.guards y.guards=true then[]else(ga [] x.guards).map (jg x)++y.guards.map (ji x)
structure nk (w0 w:Wq)(Sb n0:Nat)(oA oB:Obj)(L gl:List Wz)(v:Value)(W:Wq):Prop where
 s:mK w0 Sb L W
 x:dB Sb w W
 a:iB Sb n0 oA W
 b:iB Sb (n0+1) oB W
 z:n0+2<=W.heap.size
 r:wM Sb (n0+2) v gl W
section
variable {w0 w W W':Wq} {Sb n0:Nat} {oA oB:Obj} {L L' gl:List Wz} {v:Value}
theorem nk.moved (h:nk w0 w Sb n0 oA oB L gl v W)(hs:mK w0 Sb L' W')(a:dB Sb W W')(b:W.heap.size<=W'.heap.size):nk w0 w Sb n0 oA oB L' gl v W':=⟨hs,h.x.t a,h.a.keep a,h.b.keep a,aI h.z b,h.r.keep a⟩
theorem nk.below (h:nk w0 w Sb n0 oA oB L gl v W)(a:JJ W W'):nk w0 w Sb n0 oA oB L gl v W':=h.moved (h.s.below a) (dB.of_below h.s.lt a) a.size
theorem nk.grown (h:nk w0 w Sb n0 oA oB L gl v W)(i:w.heap.size=n0)(f:Sb<n0)(a:W.grownBy W' v.ownBlock){g c n:Nat}(e:v.ownBlock=some g\/g=W.heap.size){b:List Wz}(d:di W' (n0+2) (.slice (some ⟨g,0,none⟩) n c) b):nk w0 w Sb n0 oA oB L b (.slice (some ⟨g,0,none⟩) n c) W':=⟨(kM h.s h.r (by omega) a).1,Cz h.s h.r (by omega) a (by omega) h.x,yI h.s h.r (by omega) a (by omega) h.a,yI h.s h.r (by omega) a (by omega) h.b,aI h.z a.size,Eo h.s h.r (by omega) a e rfl d⟩
theorem nk.keeps (h:nk w0 w Sb n0 oA oB L gl v W){l:List Wz}(c:mK w0 Sb l w){B:Nat}(hB:B<=Sb):∀b off,b<B->W.cell? ⟨b,off,none⟩=w.cell? ⟨b,off,none⟩:=λb off a=>(av h.s.b hB b off a).t (av c.b hB b off a).symm
end
theorem I7 (x y:ay)(cx cy:List Value)(B:Nat)(w0 w:Wq)(Sb:Nat)(l:List Wz)(hx:jB w B cx x)(hy:jB w B cy y)(hB:B<=Sb)(h:mK w0 Sb l w)(qo:gu w0)(hw:w0.heap.size<=Sb)(Y:bo x.name=true)(q8:∀u∈y.guards,N0 u)(qy:l.length+x.guards.length+y.guards.length<=100000):Calls prog 39 #[.pointer (some ⟨Sb,0,none⟩),.agg cx.toArray,.agg cy.toArray] w (bR w0 Sb (l++ii x y) w):=by
 obtain⟨Ai,za,Ao,zq,Ag,vg,I,v8,Aw,zd,Au,zf,rfl,_,kh,_,_,tg,_⟩:=fD hx;obtain⟨Di,v3,Do,v4,Dg,q9,Dr,v1,Dw,v7,Du,zn,rfl,_,hyn,_,_,ug,_⟩:=fD hy;obtain⟨p,vc⟩:=Jj (kR (.string x.name) (.slice Ai x.ins.length za) (.slice Ao x.outs.length zq) (.slice Ag x.guards.length vg) (.slice I x.rules.length v8) (.slice Aw x.owns.length zd) (.slice Au x.routes.length zf));obtain⟨n,q6⟩:=Jj (kR (.string y.name) (.slice Di y.ins.length v3) (.slice Do y.outs.length v4) (.slice Dg y.guards.length q9) (.slice Dr y.rules.length v1) (.slice Dw y.owns.length v7) (.slice Du y.routes.length zn));obtain⟨T,qz⟩:=Jj (w.alloc (kR (.string x.name) (.slice Ai x.ins.length za) (.slice Ao x.outs.length zq) (.slice Ag x.guards.length vg) (.slice I x.rules.length v8) (.slice Aw x.owns.length zd) (.slice Au x.routes.length zf)));obtain⟨t,qs⟩:=Jj (T.alloc (kR (.string y.name) (.slice Di y.ins.length v3) (.slice Do y.outs.length v4) (.slice Dg y.guards.length q9) (.slice Dr y.rules.length v1) (.slice Dw y.owns.length v7) (.slice Du y.routes.length zn)));have vn:T.heap.size=w.heap.size+1:=Jw qz;have kf:t.heap.size=w.heap.size+2:=by rw[<-qs];simp[vn]
 have q7:JJ w T:=Jk qz;have vf:JJ T t:=Jk qs;have jk:JJ w t:=q7.t (vf.mono (by omega));have vt:=h.lt;have mX:iB Sb w.heap.size p t:=(h.mine (by rw[<-vc,qz];exact aB _ _)).keep (dB.of_below (by omega) vf);have mY:iB Sb (w.heap.size+1) n t:=by have:=(h.below q7).mine (o:=n) (W':=t) (by rw[<-q6,qs];exact aB _ _);rw[vn]at this;exact this
 have S:Hid (∀W,iB Sb w.heap.size p W->W.cell? ⟨w.heap.size,0,none⟩=some (.string x.name)/\W.cell? ⟨w.heap.size,3,none⟩=some (.slice Ag x.guards.length vg)):=Hi λW hm=>by have q:=hm.1;rw[<-vc]at q;obtain⟨a0,_,_,a3,_⟩:=au q;exact⟨a0,a3⟩
 have vm:Hid (∀W,iB Sb (w.heap.size+1) n W->W.cell? ⟨w.heap.size+1,3,none⟩=some (.slice Dg y.guards.length q9)):=Hi λW hm=>by have q:=hm.1;rw[<-q6]at q;obtain⟨_,_,_,a3,_⟩:=au q;exact a3
 have vy:nk w0 w Sb w.heap.size p n l [] (.slice none 0 0) t:=⟨h.below jk,dB.of_below vt jk,mX,mY,by omega,wM.nil _ _ _⟩;have j9:Hid (∀W,JJ t W->nk w0 w Sb w.heap.size p n l [] (.slice none 0 0) W):=Hi λW D=>vy.below D;have vl:B<=w.heap.size:=by omega
 have R:=av jk vl;have c1:=Hi (Of x.guards y.guards _ _ _ t (tg.keep Jq R λ_ _ h=>h.keep Jq R) (ug.keep Jq R λ_ _ h=>h.keep Jq R) (aI vl jk.size));obtain⟨_,x3⟩:=S.o _ mX;have y3:=vm.o _ mY;have qg:Hid (∀L gl v W,nk w0 w Sb w.heap.size p n L gl v W->L=l++ii x y->∀v,bR w0 Sb (l++ii x y) w (.returned v) W):=Hi λL _ _ W f hL v=>hL▸⟨⟨v,rfl⟩,f.s,f.x,by have:=f.z;omega⟩;have hnz:x.name.size<=24:=(eN Y).2;have z1:Hid (∀u∈x.guards,Sm u.port):=Hi λu r=>by obtain⟨cs,hcl,_,_,hR⟩:=tg;obtain⟨i,hi⟩:=fg r;have hil:=(List.getElem?_eq_some_iff.1 hi).1;obtain⟨_,_,h9,_⟩:=hR i cs[i] u (aF (by omega)) hi;exact h9
 have hlg:x.guards.length<=100000:=by omega
 have hlh:y.guards.length<=100000:=by omega
 replace qy:=Hi qy;replace h:=Hi h;replace tg:=Hi tg;replace ug:=Hi ug;replace q8:=Hi q8;replace Y:=Hi Y;have hF:Hid (ii x y=if fc fJ x.guards y.guards=true then[]else(ga [] x.guards).map (jg x)++y.guards.map (ji x)):=Hi rfl;generalize ii x y=PP at*;have zx:=Hi (aB t.heap.size t);clear hx hy q7 vf jk mX mY vy vl R vc q6;cases hp:fc fJ x.guards y.guards;case true=>rw[hp]at c1 hF;clear hp;go_enter func39,ntmps39;go_wp2_with((with_reducible refine(c1.o).mono ?_);rintro e wz ⟨rfl,jn⟩;have f:=Hi (j9.o _ jn));go_end0;exact qg.o _ _ _ _ f.o (by rw[hF.o];simp) _
 rw[hp]at c1 hF;clear hp;go_enter func39,ntmps39;go_wp2_with((with_reducible refine(c1.o).mono ?_);rintro e wz ⟨rfl,jn⟩;have f:=Hi (j9.o _ jn);obtain⟨qr,vi⟩:=S.o _ f.o.a;have vr:=vm.o _ f.o.b);clear c1 j9 vn kf qz qs x3 y3 zx;obtain⟨i0,z0,h1,h2,h3,h4,h5⟩:=lH.hi;have h1:=Hi h1;have h2:=Hi h2;have h3:=Hi h3;have h4:=Hi h4;have h5:=Hi h5;go_loopw [7,21] (λgv i wr=>∃k:Nat,k<=x.guards.length/\i=I6 k/\Hid (nk w0 w Sb w.heap.size p n (l++(ga [] (x.guards.take k)).map (jg x)) (ga [] (x.guards.take k)) gv wr))(λ_ i _=>x.guards.length-(intOf i).toNat);case atStart=>exact⟨0,aK _,rfl,Hi (by rw[eS];show nk w0 w Sb w.heap.size p n (l++[]) [] _ _;rw[aZ];exact f.o)⟩
 case round=>
  obtain⟨k,hk,rfl,m⟩:=hrel;obtain⟨a,rfl⟩:=Jv wr;clear f qr vi vr;by_cases j1:k<x.guards.length
  .have N:=m.o.keeps h.o hB;have O:=tg.o.keep (w':=a) Jq N λ_ _ h=>h.keep Jq N;obtain⟨b,off,rfl⟩:=aX.addr O (by omega);obtain⟨_,c,u,r,q,E⟩:=aX.el O j1;have qt:=aE r;obtain⟨A,C,rfl,zk,_⟩:=iO q;have z8:a.cell? ⟨b,off+k*3,none⟩=some (.string u.port):=E 0 _ rfl;have zv:a.cell? ⟨b,off+k*3+1,none⟩=some (.bool u.permit):=E 1 _ rfl;have z3:a.cell? ⟨b,off+k*3+2,none⟩=some (.slice A u.mat.length C):=E 2 _ rfl;obtain⟨d,M⟩:=Jj (a.alloc (.cells #[.string u.port,.bool u.permit,.slice A u.mat.length C] 121 (0,0)));have j8:JJ a d:=Jk M;have qw:d.heap.size=a.heap.size+1:=Jw M;have jm:=m.o.below j8;have P:d.heap[a.heap.size]?=some (.cells #[.string u.port,.bool u.permit,.slice A u.mat.length C] 121 (0,0)):=Jy M;obtain⟨q0,q1,q2⟩:=bd P;have q5:∀z∈ga [] (x.guards.take k),Sm z:=C0 _ _ (by simp) λz hz=>z1.o z (ff hz);have ka:(ga [] (x.guards.take k)).length<=k:=by have:=qq (x.guards.take k) [];rw[bv]at this;simp at this;omega
   obtain⟨I,V,rfl,hr1,hr2⟩:=gN jm.r.r;have U:=Hi (lf (ga [] (x.guards.take k)) _ u.port _ d (ol jm.r.r q5 (by omega)) Jq);have Q:=Ep r;generalize ga [] (x.guards.take k)=gl at*;have vv:=Hi λW D=>jm.below (W':=W) D;have zm:=Hi λW (D:JJ d W)=>bd ((D.block a.heap.size (by omega)).t P);have hlz:=Hi jm.s.lt;have vp:=Hi qw;have z9:=Hi λg e=>(m.o.r.r.lt g e).2;clear N O q E qt m j8 qw jm P q5 r;cases ha:gl.any (bg u.port)
   .rw[ha]at U;replace Q:=Hi (show ga [] (x.guards.take (k+1))=gl++[u.port]by rw[Q,ha];rfl);clear ha;have jy:(l++gl.map (jg x)).length<=1000000:=by have:=qy.o;rw[aC,aa];omega
    have kb:u.port.size<=140737488355328:=zk;have g1:¬9223372036854775807<6+x.name.size:=by omega
    have g2:¬9223372036854775807<6+x.name.size+7:=by omega
    have g3:¬9223372036854775807<6+x.name.size+7+u.port.size:=by omega
    have hgl0:=Hi ka;have hA:Hid (∀(j H:Wq)(J jl:Nat),nk w0 w Sb w.heap.size p n (l++gl.map (jg x)) gl (.slice I gl.length V) j->JJ d j->H.ownsRow (w.heap.size+2) 9 1 (.slice (some ⟨J,0,none⟩) (gl.length+1) jl) (gl.length+1) (gl.map Value.string++[.string u.port])->(j.alloc (.cells #[.string u.port] 9 (0,0))).grownBy H (Value.slice I gl.length V).ownBlock->((Value.slice I gl.length V).ownBlock=some J\/J=j.heap.size+1)->nk w0 w Sb w.heap.size p n (l++gl.map (jg x)) (gl++[u.port]) (.slice (some ⟨J,0,none⟩) (gl.length+1) jl) H/\H.cell? ⟨a.heap.size,0,none⟩=some (.string u.port)):=Hi λj H J jl K Z ho hg qa=>by
     have z2:=K.below (W':=j.alloc (.cells #[.string u.port] 9 (0,0))) (Jz.alloc Jq _);refine⟨z2.grown rfl vt hg (by simpa using qa) (by unfold di;rw[aC,bK];exact ho),?_⟩;have kd:a.heap.size<j.heap.size:=by have:=Z.size;have:=vp.o;omega
     have z5:H.heap[a.heap.size]?=j.heap[a.heap.size]?:=(hg.block a.heap.size (by simp;omega) λe=>by have:=z9.o _ e.symm;omega).t (((aB j.heap.size j).alloc Jq _).block _ kd);exact(dH z5).t (zm.o _ Z).1
    clear kb;go_wp2_with(first|((with_reducible refine(cS.o _).mono ?_);rintro e wz hZ;obtain⟨⟨vz,rfl⟩,F⟩:=hZ;have vb:=Hi (kg.o.moved F.1 F.2.1 F.2.2);clear F)|((with_reducible refine(U.o).mono ?_);rintro e j ⟨rfl,jn⟩;obtain⟨q0,q1,q2⟩:=zm.o _ jn;have K:=Hi (vv.o _ jn);have Z:=Hi jn;clear jn)|(at_builtin;go_loud (refine wpList_append_lies _ rfl (.tmp 30) (.tmp 33) _ rfl (w.heap.size+2) 9 i0 z0 1 16 lH.ht h1.o h2.o h3.o h4.o h5.o (by decide) (.slice I gl.length V) gl.length _ rfl (K.o.r.r.alloc _) ⟨j.heap.size,0,none⟩ 1 1 [.string u.port] rfl rfl (World.news_of_block (aG j _)) (by intro u r;simp only[dN,bG,jf]at r;subst r;rfl) (by decide) (by unfold maxLen;omega) (by omega) (by have:=K.o.z;simp;omega) (j.heap.size+1) (by simp) ?_;intro J jl H v9 v5 qf _;obtain⟨X,q4⟩:=hA.o j H J jl K.o Z.o v9 v5 qf;obtain⟨x40,_⟩:=S.o _ X.a;have kg:=Hi X;have cS:=Hi λs=>lj s X.s jy;clear v9 v5 qf X)));go_roundw;case rel=>exact⟨k+1,by omega,by go_num,Hi (by rw[Q.o,bK,<-aH];exact vb.o)⟩
    case measure=>simp[intOf];omega
   .rw[ha]at U;replace Q:=Hi (show ga [] (x.guards.take (k+1))=gl by rw[Q,ha];rfl);clear ha;go_wp2_with((with_reducible refine(U.o).mono ?_);rintro e j ⟨rfl,jn⟩;have K:=Hi (vv.o _ jn));go_roundw;case rel=>exact⟨k+1,by omega,by go_num,Hi (by rw[Q.o];exact K.o)⟩
    case measure=>simp[intOf];omega
  .have v2:=qq x.guards [];have f:Hid (nk w0 w Sb w.heap.size p n (l++(ga [] x.guards).map (jg x)) (ga [] x.guards) u7 a):=Hi (by rw[ah (by omega)]at m;exact m.o);clear m;replace v2:(ga [] x.guards).length<=x.guards.length:=by simpa using v2
   generalize ga [] x.guards=GG at*;obtain⟨qr,vi⟩:=S.o _ f.o.a;have vr:=vm.o _ f.o.b;have z4:Hid ((l++GG.map (jg x)).length+y.guards.length<=100000):=Hi (by have:=qy.o;rw[aC,aa];omega);replace hF:=Hi (show l++PP=(l++GG.map (jg x))++y.guards.map (ji x)by rw[hF.o,aH];rfl);generalize l++GG.map (jg x)=L1 at*;go_wp2_with fail;go_loopw [48] (λi wr=>∃k:Nat,k<=y.guards.length/\i=I6 k/\Hid (nk w0 w Sb w.heap.size p n (L1++(y.guards.take k).map (ji x)) GG u7 wr))(λi _=>y.guards.length-(intOf i).toNat);case atStart=>exact⟨0,aK _,rfl,Hi (by rw[eS,eg,aZ];exact f.o)⟩
   case round=>
    obtain⟨k,hk,rfl,m⟩:=hrel;obtain⟨a,rfl⟩:=Jv wr;clear f qr vi vr;by_cases j1:k<y.guards.length
    .have N:=m.o.keeps h.o hB;have O:=ug.o.keep (w':=a) Jq N λ_ _ h=>h.keep Jq N;obtain⟨b,off,rfl⟩:=aX.addr O (by omega);obtain⟨_,c,u,r,q,E⟩:=aX.el O j1;have qt:=aE r;have vo:=q8.o u qt;have zp:=q;obtain⟨A,C,rfl,zk,_⟩:=iO q;have z8:a.cell? ⟨b,off+k*3,none⟩=some (.string u.port):=E 0 _ rfl;have zv:a.cell? ⟨b,off+k*3+1,none⟩=some (.bool u.permit):=E 1 _ rfl;have z3:a.cell? ⟨b,off+k*3+2,none⟩=some (.slice A u.mat.length C):=E 2 _ rfl;obtain⟨d,M⟩:=Jj (a.alloc (.cells #[.string u.port,.bool u.permit,.slice A u.mat.length C] 121 (0,0)));have j8:JJ a d:=Jk M;have qw:d.heap.size=a.heap.size+1:=Jw M;have jm:=m.o.below j8;have P:d.heap[a.heap.size]?=some (.cells #[.string u.port,.bool u.permit,.slice A u.mat.length C] 121 (0,0)):=Jy M;obtain⟨q0,q1,q2⟩:=bd P;obtain⟨qr,_⟩:=S.o _ jm.a;obtain⟨G,vd⟩:=Jj (d.alloc (.cells #[.string u.port,.bool u.permit,.slice A u.mat.length C] 121 (0,0)));have qu:JJ d G:=Jk vd;have v0:G.heap[d.heap.size]?=some (.cells #[.string u.port,.bool u.permit,.slice A u.mat.length C] 121 (0,0)):=Jy vd;have z6:G.heap.size=d.heap.size+1:=Jw vd;have z7:=m.o.s.lt;have jy:(fo [⟨x.name,[],[],[u],[],[],[]⟩] [] []).length<=16384:=by have h2:(kK u).size<=4400:=xv vo;simp[fo,bV,l8,bn];omega
     have cB:Hid (Calls prog 45 #[.agg #[.string x.name,.slice none 0 0,.slice none 0 0,.slice (some ⟨d.heap.size,0,none⟩) 1 1,.slice none 0 0,.slice none 0 0,.slice none 0 0]] G (kZ (ji x u) G)):=Hi (by have ki:=qo.below (((jm.below qu).s.b).mono hw);have h9:iu G (d.heap.size+1) [.string u.port,.bool u.permit,.slice A u.mat.length C] u:=zp.keep (by omega) λb o zl=>(av qu (by omega) b o zl).t (av j8 (by omega) b o zl);exact BZ ⟨x.name,[],[],[u],[],[],[]⟩ _ (d.heap.size+1) G ⟨_,_,_,_,_,_,rfl,kh,bj,bj,fy v0 rfl (bQ _) h9,bj,bj,bj⟩ (by omega) ki ⟨rfl,rfl,Y.o,by intro v hv;rw[List.mem_singleton.1 hv];exact vo,by simp,by simp,by simp⟩ jy);have kc:Hid ((y.guards.take (k+1)).map (ji x)=(y.guards.take k).map (ji x)++[ji x u]):=Hi (by rw[ep,r];simp);have qi:(L1++(y.guards.take k).map (ji x)).length<=1000000:=by have:=z4.o;have h3:=AU k y.guards;rw[aC,aa];omega
     have j9:=Hi λW (D:JJ G W)=>jm.below (qu.t (D.mono (by omega)));have cS:=Hi λW D=>λs=>lj s (j9.o W D).s qi;clear N O q zp E qt m j8 qw jm P r vo jy v0 z6 qu z7;generalize ji x u=TX at*;go_wp2_with(first|((with_reducible refine(cS.o _ vs _).mono ?_);rintro e wz hZ;obtain⟨⟨vz,rfl⟩,F⟩:=hZ;have vb:=Hi ((j9.o _ vs).moved F.1 F.2.1 F.2.2);clear F)|((with_reducible refine(cB.o).mono ?_);rintro e j ⟨rfl,vs⟩));go_roundw;case rel=>exact⟨k+1,by omega,by go_num,Hi (by rw[kc.o,<-aH];exact vb.o)⟩
     case measure=>simp[intOf];omega
    .have f:Hid (nk w0 w Sb w.heap.size p n (L1++y.guards.map (ji x)) GG u7 a):=Hi (by rw[ah (by omega)]at m;exact m.o);clear m;go_wp2_with fail;go_end0;exact qg.o _ _ _ _ f.o hF.o.symm _
end Go.Proofs.YtgfgoaeaicefcaaGreatDoor
