/- Part of DeltaBack. -/
import Derived.Test.YtgfgoaeaicefcaaGreatDoorQB1
set_option maxHeartbeats 16000000
set_option maxRecDepth 100000
set_option linter.all false
namespace Go.Proofs.YtgfgoaeaicefcaaGreatDoor
open Go.RowKit Tryz
variable {w:Wq}{B:Nat}
structure zR (w:Wq)(cb mb B n:Nat)(c:bE)(vf:Value)(f:i8):Prop where
 c1:w.cell? ⟨cb,1,none⟩=some vf
 c2:w.cell? ⟨cb,2,none⟩=some (.string c.routing)fs:eX w B vf c.fields
 rt:Sm c.routing
 env:gu w
 map:ej w mb n f
 hB:B<=w.heap.size
theorem zR.lt {cb mb n:Nat}{c:bE}{vf:Value}{f:i8}(h:zR w cb mb B n c vf f):cb<w.heap.size:=bB w _ h.c1
theorem zR.below {w':Wq}{cb mb n:Nat}{c:bE}{vf:Value}{f:i8}(h:zR w cb mb B n c vf f)(a:JJ w w'):zR w' cb mb B n c vf f where c1:=gI a h.c1;c2:=gI a h.c2;fs:=dZ h.fs Jq (av a h.hB);rt:=h.rt;env:=h.env.below a;map:=h.map.below a h.map.lt;hB:=aI h.hB a.size
abbrev oY (cb mb ni cap:Nat)(A:Option Addr)(vn vo vg vr va vb:Value):Array Value:=#[.pointer (some ⟨cb,0,none⟩),vn,.slice A ni cap,vo,vg,vr,va,vb,.map (some mb)]
theorem DQ {b:Bool}{w':Wq}(a:JJ w w'):dP b w (.returned (.bool b)) w':=⟨rfl,a⟩
section
variable {w:Wq} {cb mb B n:Nat} {c:bE} {vf:Value} {f:i8} (ni cap:Nat) (A:Option Addr) (vn vo vg vr va vb:Value)
theorem Ft (l:List de)(v:Value)(D:zR w cb mb B n c vf f)(i:iq w B v l):Calls prog 178 #[.agg (oY cb mb ni cap A vn vo vg vr va vb),v] w (dP (rN c.fields l) w):=by
 obtain⟨t,x,rfl,_,_⟩:=aX.form i;obtain⟨s,u,o,_,_⟩:=aX.form D.fs;subst o;obtain⟨a,m⟩:=Jj (w.alloc (.cells (oY cb mb ni cap A vn vo vg vr va vb) 158 (0,0)));have d:=Hi (show JJ w a by exact Jk m);have j:a.heap[w.heap.size]?=some (.cells (oY cb mb ni cap A vn vo vg vr va vb) 158 (0,0)):=Jy m;have g:=Hi (D.below d.o);have z:a.cell? ⟨w.heap.size,0,none⟩=some (.pointer (some ⟨cb,0,none⟩)):=by rw[aA a _ _ _ _ _ j];rfl
 have y:=g.o.c1;have cx:=Hi (FU c.fields l _ _ B a g.o.fs (iq.below i d.o D.hB|>λh=>dZ i Jq (av d.o D.hB)) g.o.hB g.o.env);clear j i D;cases hO:rN c.fields l
 .rw[hO]at cx;go_enter func178,ntmps178;go_wp2_with(go_at_call 102;refine cx.o.mono ?_;intro e q b;obtain⟨k,rfl,p,r,jf⟩:=pJ b;have C:(k==0)=false:=(by simp[p]);have jl:=Hi (JK d.o jf);clear b jf r);go_ret;exact DQ jl.o
 .rw[hO]at cx;go_enter func178,ntmps178;go_wp2_with(go_at_call 102;refine cx.o.mono ?_;intro e q b;obtain⟨rfl,jf⟩:=gm b;have jl:=Hi (JK d.o jf);clear b jf);go_ret;exact DQ jl.o
theorem ew {c:List Value}{x:db}(h:gn w B c x):∃a g b i d j e k,c=[I6 x.prio,.slice a x.frm.length g,.slice b x.mat.length i,.slice d x.sets.length j,.slice e x.dst.length k]/\dk w B (.slice a x.frm.length g) x.frm/\iq w B (.slice b x.mat.length i) x.mat/\AT w B (.slice d x.sets.length j) x.sets/\dk w B (.slice e x.dst.length k) x.dst:=by obtain⟨vf,p,vs,q,h1,h3,l,m,o⟩:=h;obtain⟨a,g,rfl,_,_⟩:=aX.form h3;obtain⟨b,i,rfl,_,_⟩:=aX.form l;obtain⟨d,j,rfl,_,_⟩:=aX.form m;obtain⟨e,k,rfl,_,_⟩:=aX.form o;exact⟨a,g,b,i,d,j,e,k,h1,h3,l,m,o⟩
theorem ik {g:Nat}{b d e i j:Value}{t:TypeId}{a:Nat×Nat}(h:w.heap[g]?=some (.cells #[b,d,e,i,j] t a)):w.cell? ⟨g,0,none⟩=some b/\w.cell? ⟨g,1,none⟩=some d/\w.cell? ⟨g,2,none⟩=some e/\w.cell? ⟨g,3,none⟩=some i/\w.cell? ⟨g,4,none⟩=some j:=by refine⟨?_,?_,?_,?_,?_⟩<;>rw[aA w g _ _ t a h]<;>rfl
theorem Oo (r:db)(g:List db)(cc:List Value)(v:Value)(D:zR w cb mb B n c vf f)(hr:gn w B cc r)(Y:aX 5 gn w B v g):Calls prog 179 #[.agg (oY cb mb ni cap A vn vo vg vr va vb),.agg cc.toArray,v] w (jH (nH c f ni g r) w):=by
 obtain⟨Av,za,rfl,_,k6⟩:=aX.form Y;obtain⟨Ac,j5,q6,_,_⟩:=aX.form D.fs;subst q6;obtain⟨Af,cf,Am,cm,U,V,At,ct,rfl,t1,t2,t3,t4⟩:=ew hr;obtain⟨W0,j4⟩:=Jj (w.alloc (.cells (oY cb mb ni cap A vn vo vg vr va vb) 158 (0,0)));have qt:W0.heap.size=w.heap.size+1:=Jw j4;obtain⟨l,N⟩:=Jj (W0.alloc (.cells #[I6 r.prio,.slice Af r.frm.length cf,.slice Am r.mat.length cm,.slice U r.sets.length V,.slice At r.dst.length ct] 50 (0,0)));have q7:l.heap.size=w.heap.size+2:=by rw[<-N];simp[qt]
 have j9:JJ w l:=by rw[<-N,<-j4];exact(Jz.alloc Jq _).alloc (by simp) _
 have hX:l.heap[w.heap.size]?=some (.cells (oY cb mb ni cap A vn vo vg vr va vb) 158 (0,0)):=by rw[<-N,<-j4];exact(((aB (w.alloc _).heap.size (w.alloc _)).alloc Jq _).block w.heap.size (by simp)).t (aG w _)
 have hY:l.heap[w.heap.size+1]?=some (.cells #[I6 r.prio,.slice Af r.frm.length cf,.slice Am r.mat.length cm,.slice U r.sets.length V,.slice At r.dst.length ct] 50 (0,0)):=by rw[<-N,<-qt];exact aG W0 _
 have jm:=Hi λW (a:JJ l W)=>j9.t (a.mono (by omega));have Z:=Hi λW (a:JJ l W)=>gY ((a.block _ (by omega)).t hX);have P:=Hi λW (a:JJ l W)=>ik ((a.block _ (by omega)).t hY);have E:=Hi λW (a:JJ l W)=>D.below (jm.o W a);have I:=Hi λW (a:JJ l W)=>av (jm.o W a) Jq;have jy:=Hi (aB l.heap.size l);obtain⟨T,_,_,_,_⟩:=P.o _ jy.o;have j8:=Hi D.hB;have v2:=Hi (show w.heap.size<l.heap.size by omega);have vy:=Hi (show w.heap.size+1<l.heap.size by omega);replace t1:=Hi t1;replace t2:=Hi t2;replace t3:=Hi t3;replace t4:=Hi t4;replace Y:=Hi Y;have d:Hid (nH c f ni g r=(decide (0<=r.prio/\r.prio<=65535)&&!(g.any λs=>decide (s.prio=r.prio))&&eE f ni true [] r.frm&&rN c.fields r.mat&&Ce c.fields r.sets&&decide (r.dst.length<=4)&&eE f ni false [] r.dst)):=Hi rfl;generalize nH c f ni g r=R at*;clear D hr hX hY j9 q7;by_cases z:0<=r.prio/\r.prio<=65535;case neg=>
  have j:=Hi (show R=false by rw[d.o,aM z];rfl);clear d;by_cases hp0:r.prio<0
  .have d1:decide (r.prio<0)=true:=aV hp0;go_enter func179,ntmps179;go_wp2_with fail;go_ret;exact eB j.o (by decide) (jm.o _ jy.o)
  .have d1:decide (r.prio<0)=false:=aM hp0;have d2:(r.prio>65535):=by omega
   go_enter func179,ntmps179;go_wp2_with fail;go_ret;exact eB j.o (by decide) (jm.o _ jy.o)
 have d1:decide (r.prio<0)=false:=aM (by omega);have d2:¬(r.prio>65535):=by omega
 replace d:Hid (R=(!(g.any λs=>decide (s.prio=r.prio))&&eE f ni true [] r.frm&&rN c.fields r.mat&&Ce c.fields r.sets&&decide (r.dst.length<=4)&&eE f ni false [] r.dst)):=Hi (by rw[d.o,aV z,az]);go_enter func179,ntmps179;go_wp2_with fail;go_loopw [22] (λi wr=>∃k:Nat,k<=g.length/\i=I6 k/\Hid (∀s∈g.take k,¬s.prio=r.prio)/\Hid (JJ l wr))(λi _=>g.length-(intOf i).toNat);case atStart=>exact⟨0,aK _,rfl,Hi (by simp),jy⟩
 case round=>
  obtain⟨k,yn,rfl,M,q⟩:=hrel;obtain⟨S,rfl⟩:=Jv wr;clear jy T j4 N qt;obtain⟨T,y1,y2,G,y4⟩:=P.o _ q.o;by_cases qg:k<g.length
  .have qr:=Y.o.keep (w':=S) Jq (λb o a=>I.o _ q.o b o (bZ a j8.o)) λ_ _ h=>h.keep Jq (λb o a=>I.o _ q.o b o (bZ a j8.o));obtain⟨b,off,rfl⟩:=aX.addr qr (by omega);obtain⟨_,c9,s,hs,hc,H⟩:=aX.el qr qg;obtain⟨Bf,bf,Bm,bm,Bs,bs,Bt,bt,rfl,_,_,_,_⟩:=ew hc;have e0:S.cell? ⟨b,off+k*5,none⟩=_:=H 0 _ rfl;have e1:=H 1 _ rfl;have e2:=H 2 _ rfl;have e3:=H 3 _ rfl;have e4:=H 4 _ rfl;have jn:=Hi λo=>q.o.alloc q.o.size o;clear H qr hc;have zb:w.heap.size+1<S.heap.size:=by have:=q.o.size;have:=vy.o;omega
   by_cases y:s.prio=r.prio
   .have j:=Hi (show R=false by rw[d.o,show(g.any λs=>decide (s.prio=r.prio))=true from List.any_eq_true.2 ⟨s,aE hs,by simp[y]⟩];rfl);have xi:(s.prio==r.prio)=true:=by simp[y]
    have qb:=Hi λo=>jm.o _ (jn.o o);clear d hs y;go_wp2_with fail;go_ret;exact eB j.o (by decide) (qb.o _)
   .have xi:(s.prio==r.prio)=false:=by simp[y]
    have qf:Hid (∀u∈g.take (k+1),¬u.prio=r.prio):=Hi (by
     rw[ek hs];intro u hu;rcases List.mem_append.1 hu with h|h
     .exact M.o u h
     .rw[fY]at h;rw[h];exact y);clear d hs y M;go_wp2_with fail;go_roundw;case rel=>exact⟨k+1,by omega,by go_num,qf,jn.o _⟩
    case measure=>simp[intOf];omega
  .have z5:g.take k=g:=ah (by omega);rw[z5]at M;replace d:Hid (R=(eE f ni true [] r.frm&&rN c.fields r.mat&&Ce c.fields r.sets&&decide (r.dst.length<=4)&&eE f ni false [] r.dst)):=Hi (by rw[d.o,show(g.any λs=>decide (s.prio=r.prio))=false from Bool.eq_false_iff.2 λh=>by obtain⟨u,hu,y⟩:=List.any_eq_true.1 h;exact M.o u hu (by simpa using y)];rfl);obtain⟨C,x1,x2,x3,x4,x5,x6,x7,x8⟩:=Z.o _ q.o;have Q:=Hi (Fs f n mb ni cap A (.pointer (some ⟨cb,0,none⟩)) vn vo vg vr va vb _ r.frm true w.heap.size S (E.o _ q.o).map (t1.o.keep j8.o λb o a=>I.o _ q.o b o (bZ a j8.o)) (jm.o _ q.o).size);clear M;have m:=Hi λW (a:JJ S W)=>(JK q.o a);cases g1:eE f ni true [] r.frm
   .rw[g1]at Q;have j:=Hi (show R=false by rw[d.o,g1];rfl);clear d g1;go_wp2_with(go_at_call 245;refine Q.o.mono ?_;intro e w2 z;obtain⟨kk,rfl,q9,zp,jf⟩:=pJ z;have jl:=Hi (jm.o _ (m.o _ jf));replace q9:=Hi q9;clear jf z);go_ret;exact eB j.o q9.o jl.o
   rw[g1]at Q;replace d:Hid (R=(rN c.fields r.mat&&Ce c.fields r.sets&&decide (r.dst.length<=4)&&eE f ni false [] r.dst)):=Hi (by rw[d.o,g1,az]);clear g1;go_upto_region 12 with(go_at_call 245;refine Q.o.mono ?_;intro e w2 z;obtain⟨rfl,jf⟩:=gm z;have jl:=Hi (m.o _ jf);clear jf z);clear C x1 x2 x3 x4 x5 x6 x7 x8 T y1 y2 G y4 Q m q;obtain⟨C,x1,x2,x3,x4,x5,x6,x7,x8⟩:=Z.o _ jl.o;obtain⟨T,y1,y2,G,y4⟩:=P.o _ jl.o;have J:=Hi (Ft ni cap A vn vo vg vr va vb r.mat _ (E.o _ jl.o) (dZ t2.o Jq λb o a=>I.o _ jl.o b o (bZ a j8.o)));have m:=Hi λW (a:JJ w2 W)=>(JK jl.o a);cases g2:rN c.fields r.mat
   .rw[g2]at J;have j:=Hi (show R=false by rw[d.o,g2];rfl);clear d g2;go_wp2_with(go_at_call 178;refine J.o.mono ?_;rintro e F ⟨rfl,L⟩;have x:=Hi (jm.o _ (m.o _ L));clear L);go_ret;exact eB j.o (by decide) x.o
   rw[g2]at J;replace d:Hid (R=(Ce c.fields r.sets&&decide (r.dst.length<=4)&&eE f ni false [] r.dst)):=Hi (by rw[d.o,g2,az]);clear g2;go_upto_region 14 with(go_at_call 178;refine J.o.mono ?_;rintro e F ⟨rfl,L⟩;have x:=Hi (m.o _ L);clear L);clear C x1 x2 x3 x4 x5 x6 x7 x8 T y1 y2 G y4 J m jl;obtain⟨C,_,_,_,_,_,_,_,_⟩:=Z.o _ x.o;obtain⟨_,_,_,G,_⟩:=P.o _ x.o;have q1:=(E.o _ x.o).c1;have kj:w.heap.size<F.heap.size:=by have:=x.o.size;have:=v2.o;omega
   have kg:w.heap.size+1<F.heap.size:=by have:=x.o.size;have:=vy.o;omega
   have qy:=(E.o _ x.o).lt;have m:=Hi λW (a:JJ F W)=>(JK x.o a);have K:=Hi λW (a:JJ F W)=>O9 c.fields r.sets _ _ B W (E.o _ (m.o _ a)).fs (dZ t3.o Jq λb o h=>I.o _ (m.o _ a) b o (bZ h j8.o)) (E.o _ (m.o _ a)).hB;have X:=Hi (aB F.heap.size F).drew;cases g3:Ce c.fields r.sets
   .rw[g3]at K;have j:=Hi (show R=false by rw[d.o,g3];rfl);clear d g3;go_region_held3 (λW=>W.cell? ⟨w.heap.size,0,none⟩=some (.pointer (some ⟨cb,0,none⟩))/\W.cell? ⟨cb,1,none⟩=some (.slice Ac c.fields.length j5)/\W.cell? ⟨w.heap.size+1,3,none⟩=some (.slice U r.sets.length V))(first|exact hHeld|go_keep|exact⟨(jk.cell (p:=⟨w.heap.size,0,none⟩) kj).t C,(jk.cell (p:=⟨cb,1,none⟩) qy).t q1,(jk.cell (p:=⟨w.heap.size+1,3,none⟩) kg).t G⟩)(((with_reducible refine(K.o _ X.o).mono ?_);rintro e wz ⟨⟨vz,kz,rfl,O⟩,jn⟩;have jk:=JK X.o jn;have zp:(kz !=0)=true:=(by simp;intro h;simp[h]at O)));all_goals have t:=Hi (jm.o _ (m.o _ jk));clear O;go_wp2_with fail;go_ret;exact eB j.o (by decide) t.o
   rw[g3]at K;replace d:Hid (R=(decide (r.dst.length<=4)&&eE f ni false [] r.dst)):=Hi (by rw[d.o,g3,az]);clear g3;go_region_held3 (λW=>W.cell? ⟨w.heap.size,0,none⟩=some (.pointer (some ⟨cb,0,none⟩))/\W.cell? ⟨cb,1,none⟩=some (.slice Ac c.fields.length j5)/\W.cell? ⟨w.heap.size+1,3,none⟩=some (.slice U r.sets.length V))(first|exact hHeld|go_keep|exact⟨(jk.cell (p:=⟨w.heap.size,0,none⟩) kj).t C,(jk.cell (p:=⟨cb,1,none⟩) qy).t q1,(jk.cell (p:=⟨w.heap.size+1,3,none⟩) kg).t G⟩)(((with_reducible refine(K.o _ X.o).mono ?_);rintro e wz ⟨⟨vz,kz,rfl,O⟩,jn⟩;have jk:=JK X.o jn;obtain rfl:kz=0:=O.2 rfl;clear O));all_goals
    have t:=Hi (m.o _ jk);clear C G q1 jn jk K;obtain⟨C,x1,x2,x3,x4,x5,x6,x7,x8⟩:=Z.o _ t.o;obtain⟨_,_,_,_,y4⟩:=P.o _ t.o;by_cases h4:r.dst.length<=4
    .have k9:=Hi (Fs f n mb ni cap A (.pointer (some ⟨cb,0,none⟩)) vn vo vg vr va vb _ r.dst false w.heap.size _ (E.o _ t.o).map (t4.o.keep j8.o λb o a=>I.o _ t.o b o (bZ a j8.o)) (jm.o _ t.o).size);have yf:¬((r.dst.length:Int)>4):=by omega
     have j:=Hi (show R=eE f ni false [] r.dst by rw[d.o,aV h4,az]);clear d h4;go_wp2_with(go_at_call 245;refine k9.o.mono ?_;rintro e w8 ⟨⟨k8,rfl,qs⟩,vd⟩;have q3:=Hi ((jm.o _ t.o).t (vd.mono (jm.o _ t.o).size));replace qs:=Hi qs;clear vd);go_ret;exact⟨⟨_,rfl,by rw[j.o];exact qs.o⟩,q3.o⟩
    .have j:=Hi (show R=false by rw[d.o,aM h4];rfl);have yf:((r.dst.length:Int)>4):=by omega
     clear d h4;go_wp2_with fail;go_ret;exact eB j.o (by decide) (jm.o _ t.o)
end
theorem iX {g:Nat}{b d e:Value}{t:TypeId}{a:Nat×Nat}(h:w.heap[g]?=some (.cells #[b,d,e] t a)):w.cell? ⟨g,0,none⟩=some b/\w.cell? ⟨g,1,none⟩=some d/\w.cell? ⟨g,2,none⟩=some e:=by refine⟨?_,?_,?_⟩<;>rw[aA w g _ _ t a h]<;>rfl
theorem Hm {s:Wz}(h:s.size=0):s=ByteArray.empty:=by apply sN;exact oF h
section
variable {w:Wq} {cb mb B n:Nat} {c:bE} {vf:Value} {f:i8} (ni cap:Nat) (A:Option Addr) (vn vo vg vr va vb:Value)
theorem Cn (p:dc)(x:List dc)(v:Value)(D:zR w cb mb B n c vf f)(hps:Sm p.dst)(P:oa w B v x)(hof:nz c.fields=true)(hrt:¬c.routing=ByteArray.empty->0<=fN c.fields c.routing):Calls prog 180 #[.agg (oY cb mb ni cap A vn vo vg vr va vb),.agg #[I6 p.value,I6 p.len,.string p.dst],v] w (jH (gh c f ni x p) w):=by
 obtain⟨Av,za,rfl,_,k6⟩:=aX.form P;obtain⟨Ac,j5,q6,_,hcl⟩:=aX.form D.fs;subst q6;obtain⟨S,Q⟩:=Jj (w.alloc (.cells (oY cb mb ni cap A vn vo vg vr va vb) 158 (0,0)));have qt:S.heap.size=w.heap.size+1:=Jw Q;obtain⟨r,N⟩:=Jj (S.alloc (.cells #[I6 p.value,I6 p.len,.string p.dst] 96 (0,0)));have q7:r.heap.size=w.heap.size+2:=by rw[<-N];simp[qt]
 have j9:JJ w r:=by rw[<-N,<-Q];exact(Jz.alloc Jq _).alloc (by simp) _
 have hX:r.heap[w.heap.size]?=some (.cells (oY cb mb ni cap A vn vo vg vr va vb) 158 (0,0)):=by rw[<-N,<-Q];exact(((aB (w.alloc _).heap.size (w.alloc _)).alloc Jq _).block w.heap.size (by simp)).t (aG w _)
 have hY:r.heap[w.heap.size+1]?=some (.cells #[I6 p.value,I6 p.len,.string p.dst] 96 (0,0)):=by rw[<-N,<-qt];exact aG S _
 have jm:=Hi λW (C:JJ r W)=>j9.t (C.mono (by omega));have j0:=Hi λW (C:JJ r W)=>gY ((C.block _ (by omega)).t hX);have qo:=Hi λW (C:JJ r W)=>iX ((C.block _ (by omega)).t hY);have E:=Hi λW (C:JJ r W)=>D.below (jm.o W C);have hk:=Hi λW (C:JJ r W)=>av (jm.o W C) Jq;have jy:=Hi (aB r.heap.size r);obtain⟨O,_,_,_,_,_,_,_,_⟩:=j0.o _ jy.o;have q1:=(E.o _ jy.o).c1;have q2:=(E.o _ jy.o).c2;have j8:=Hi D.hB;have v2:=Hi (show w.heap.size<r.heap.size by omega);have vy:=Hi (show w.heap.size+1<r.heap.size by omega);replace P:=Hi P;have g:Hid (gh c f ni x p=(!decide (c.routing=ByteArray.empty)&&decide (0<=p.len/\p.len<=qT c/\0<=p.value/\p.value<2^(qT c).toNat/\p.value%2^(qT c-p.len).toNat=0)&&!(x.any λq=>decide (q.value=p.value/\q.len=p.len))&&mS f ni p.dst false)):=Hi rfl;generalize gh c f ni x p=R at*;clear hX hY j9 q7;by_cases t:c.routing=ByteArray.empty
 .have z:=Hi (show R=false by rw[g.o,aV t];rfl);have k3:c.routing.toList.isEmpty=true:=qP _ (by rw[t];rfl);clear g t D;go_enter func180,ntmps180;go_wp2_with fail;go_ret;exact eB z.o (by decide) (jm.o _ jy.o)
 have k3:c.routing.toList.isEmpty=false:=jw _ λh0=>t (Hm h0);have kx:=tN (l:=c.fields) (nm:=c.routing) (hrt t);have kt:=tM c.fields c.routing;have y6:=hrt t;obtain⟨j,F⟩:∃j:Nat,fN c.fields c.routing=j:=⟨(fN c.fields c.routing).toNat,by omega⟩;obtain⟨y,G,_⟩:=kx;have kn:qT c=y.bits:=by unfold qT;rw[G]
 rw[F]at G kt;simp only[eW]at G;have Y:=(oS hof).2.1 y (aE G);obtain⟨d,ka⟩:∃d:Nat,y.bits=d:=⟨y.bits.toNat,by have:=Y.2.2.2;omega⟩;have hbt1:1<=d/\d<=32:=by have:=Y.2.2.2;omega
 rw[kn,ka]at g;simp only[eW]at g;have yy:j<c.fields.length:=(List.getElem?_eq_some_iff.1 G).1;have v9:=(E.o _ jy.o).fs;obtain⟨J,of,k5⟩:=aX.addr v9 (by omega);subst k5;obtain⟨hbfB,cf9,y9,kh,⟨yh,_⟩,z8⟩:=aX.el v9 yy;obtain rfl:y=y9:=by rw[kh]at G;injection G with h;exact h.symm
 subst yh;have X:r.cell? ⟨J,of+j*2+1,none⟩=some (I6 y.bits):=z8 1 _ rfl;rw[ka]at X;have cf:Hid (∀W,JJ r W->Calls prog 96 #[.slice (some ⟨J,of,none⟩) c.fields.length j5,.string c.routing] W λe w'=>e=.returned (I6 j)/\JJ W w'):=Hi λW C=>by rw[<-F];exact Jl c.fields c.routing _ B W (E.o _ C).fs (E.o _ C).hB
 replace g:Hid (R=(decide (0<=p.len/\p.len<=d/\0<=p.value/\p.value<2^d/\p.value%2^((d:Int)-p.len).toNat=0)&&!(x.any λq=>decide (q.value=p.value/\q.len=p.len))&&mS f ni p.dst false)):=Hi (by rw[g.o,aM t];rfl);have qy:=(E.o _ jy.o).lt;have k2:J<r.heap.size:=by have:=v2.o;have:=j8.o;omega
 have Z:=Hi (aB r.heap.size r).drew;replace E:=Hi E.o;clear F G kh z8 v9 Y t y6 kn D kt hrt hof;go_enter func180,ntmps180;go_upto_region 3 with fail;clear qt Q N;go_region_held3 (λW=>W.cell? ⟨w.heap.size,0,none⟩=some (.pointer (some ⟨cb,0,none⟩))/\W.cell? ⟨cb,1,none⟩=some (.slice (some ⟨J,of,none⟩) c.fields.length j5)/\W.cell? ⟨cb,2,none⟩=some (.string c.routing)/\W.cell? ⟨J,of+j*2+1,none⟩=some (I6 d))(first|exact hHeld|go_keep|exact⟨(jk.cell (p:=⟨w.heap.size,0,none⟩) v2.o).t O,(jk.cell (p:=⟨cb,1,none⟩) qy).t q1,(jk.cell (p:=⟨cb,2,none⟩) qy).t q2,(jk.cell (p:=⟨J,of+j*2+1,none⟩) k2).t X⟩)(((with_reducible refine(cf.o _ Z.o).mono ?_);rintro e wz ⟨rfl,jn⟩;have jk:=(JK Z.o jn)));all_goals
  have jf:=Hi jk;clear O q1 q2 X jn jk cf Z;obtain⟨O,x1,x2,x3,x4,x5,x6,x7,x8⟩:=j0.o _ jf.o;obtain⟨y0,y1,y2⟩:=qo.o _ jf.o;have I:=Hi λn=>ar (jm.o _ jf.o) n;by_cases c1:p.len<0
  .have z:=Hi (show R=false by rw[g.o,aM (by omega)];rfl);have U:decide (p.len<0)=true:=aV c1;clear g;go_upto_region 4 with fail;go_quiet(fail);go_wp2_with fail;go_ret;exact eB z.o (by decide) (I.o _)
  have U:decide (p.len<0)=false:=aM c1;by_cases c2:(d:Int)<p.len
  .have z:=Hi (show R=false by rw[g.o,aM (by omega)];rfl);have L:decide (p.len>d)=true:=aV c2;clear g;go_upto_region 4 with fail;go_quiet(fail);go_wp2_with fail;go_ret;exact eB z.o (by decide) (I.o _)
  have L:decide (p.len>d)=false:=aM c2;by_cases c3:p.value<0
  .have z:=Hi (show R=false by rw[g.o,aM (by omega)];rfl);have V:decide (p.value<0)=true:=aV c3;clear g;go_upto_region 4 with fail;go_quiet(fail);go_wp2_with fail;go_ret;exact eB z.o (by decide) (I.o _)
  have V:decide (p.value<0)=false:=aM c3;obtain⟨m,kf⟩:∃m:Nat,p.len=m:=⟨p.len.toNat,by omega⟩;obtain⟨vl,vi⟩:∃vl:Nat,p.value=vl:=⟨p.value.toNat,by omega⟩;rw[kf]at y1 g U L;rw[vi]at y0 g V;have hlb:m<=d:=by omega
  clear L;have L:decide (d<m)=false:=aM (by omega);have v8:∀n:Nat,n<=32->wrap64 ((2:Int)^n)=2^n:=λn h=>by have h1:=jd (b:=(n:Int)) (by omega) (by omega);unfold ix at h1;rw[eW]at h1;exact LF (by omega)
  have yw:wrap64 ((2:Int)^d)=2^d:=v8 d (by omega);have yd:wrap64 ((2:Int)^(d-m))=2^(d-m):=v8 _ (by omega);have ki:((d:Int)-(m:Int)).toNat=d-m:=by omega
  have kw:wrap64 ((d:Int)-(m:Int))=(d:Int)-(m:Int):=LF (by omega);rw[ki]at g;have zl:(0:Int)<2^(d-m):=Int.pow_pos (by omega);have y7:Int.tmod (vl:Int) (2^(d-m))=(vl:Int)%2^(d-m):=Int.tmod_eq_emod_of_nonneg (by omega);clear v8;by_cases c4:(2:Int)^d<=vl
  .have z:=Hi (show R=false by rw[g.o,aM (by omega)];rfl);have d4:decide ((vl:Int)>=2^d)=true:=aV c4;clear g;go_upto_region 4 with fail;go_quiet(fail);go_wp2_with fail;go_ret;exact eB z.o (by decide) (I.o _)
  have d4:decide ((vl:Int)>=2^d)=false:=aM c4;have z7:¬(2:Int)^(d-m)=0:=by omega
  have yl:0<=(vl:Int)%2^(d-m)/\(vl:Int)%2^(d-m)<=vl:=⟨Int.emod_nonneg _ z7,by have:=Int.emod_add_mul_ediv (vl:Int) (2^(d-m));have:=Int.mul_nonneg (Int.le_of_lt zl) (Int.ediv_nonneg (a:=(vl:Int)) (by omega) (Int.le_of_lt zl));omega⟩;have hv64:(vl:Int)<=9223372036854775807:=by have h1:=jd (b:=(d:Int)) (by omega) (by omega);unfold ix at h1;rw[eW]at h1;omega
  by_cases c5:(vl:Int)%2^(d-m)=0;case neg=>
   have z:=Hi (show R=false by rw[g.o,aM (λh=>c5 h.2.2.2.2)];rfl);have d5:((vl:Int)%2^(d-m) !=0)=true:=by simp[c5]
   clear g;have hmw:wrap64 ((vl:Int)%2^(d-m))=(vl:Int)%2^(d-m):=LF (by omega);go_upto_region 4 with fail;go_quiet(fail);go_wp2_with fail;go_ret;exact eB z.o (by decide) (I.o _)
  replace g:Hid (R=(!(x.any λq=>decide (q.value=p.value/\q.len=p.len))&&mS f ni p.dst false)):=Hi (by rw[g.o,aV ⟨by omega,by omega,by omega,by omega,c5⟩,az,vi,kf]);have d5:((vl:Int)%2^(d-m) !=0)=false:=by simp[c5]
  go_upto_region 4 with fail;go_quiet(fail);obtain⟨T,z0⟩:∃T,T=wz.drewN nq:=⟨_,rfl⟩;have j1:Hid (JJ r T):=Hi (by rw[z0];exact ar jf.o nq);rw[<-z0];clear z0 O x1 x2 x3 x4 x5 x6 x7 x8 y0 y1 y2 U L V d4 d5 yw yd ki kw y7 jf I zl z7 yl c4 c5;go_wp2_with fail;go_loopw [69] (λi wr=>∃k:Nat,k<=x.length/\i=I6 k/\Hid (∀s∈x.take k,¬(s.value=p.value/\s.len=p.len))/\Hid (JJ r wr))(λi _=>x.length-(intOf i).toNat);case atStart=>exact⟨0,aK _,rfl,Hi (by simp),j1⟩
  case round=>
   obtain⟨k,yn,rfl,M,H⟩:=hrel;obtain⟨K,rfl⟩:=Jv wr;clear j1;obtain⟨y0,y1,y2⟩:=qo.o _ H.o;by_cases qg:k<x.length
   .have qr:=dZ (w':=K) P.o Jq (λb o C=>hk.o _ H.o b o (bZ C j8.o));obtain⟨b,off,rfl⟩:=aX.addr qr (by omega);obtain⟨_,c9,s,hs,⟨hc,_⟩,F⟩:=aX.el qr qg;subst hc;have e0:K.cell? ⟨b,off+k*3,none⟩=some (I6 s.value):=F 0 _ rfl;have e1:K.cell? ⟨b,off+k*3+1,none⟩=some (I6 s.len):=F 1 _ rfl;have e2:K.cell? ⟨b,off+k*3+2,none⟩=some (.string s.dst):=F 2 _ rfl;have jn:=Hi λo=>H.o.alloc H.o.size o;have zb:w.heap.size+1<K.heap.size:=by have:=H.o.size;have:=vy.o;omega
    clear F qr;by_cases t:s.value=p.value/\s.len=p.len
    .have z:=Hi (show R=false by rw[g.o,show(x.any λq=>decide (q.value=p.value/\q.len=p.len))=true from List.any_eq_true.2 ⟨s,aE hs,aV t⟩];rfl);have kq:(s.value==p.value)=true:=by simp[t.1]
     have yo:(s.len==p.len)=true:=by simp[t.2]
     have I:=Hi λo=>jm.o _ (jn.o o);obtain⟨kb,he5⟩:=t;clear g hs;go_wp2_with fail;go_ret;exact eB z.o (by decide) (I.o _)
    .have qf:Hid (∀u∈x.take (k+1),¬(u.value=p.value/\u.len=p.len)):=Hi (by
      rw[ek hs];intro u hu;rcases List.mem_append.1 hu with h|h
      .exact M.o u h
      .rw[fY]at h;rw[h];exact t);clear g hs M;by_cases he3:s.value=p.value
     .have kq:(s.value==p.value)=true:=by simp[he3]
      have kb:¬s.len=p.len:=λh=>t ⟨he3,h⟩;have yo:(s.len==p.len)=false:=by simp[kb]
      clear t;go_wp2_with fail;go_roundw;case rel=>exact⟨k+1,by omega,by go_num,qf,jn.o _⟩
      case measure=>simp[intOf];omega
     .have kq:(s.value==p.value)=false:=by simp[he3]
      clear t;go_wp2_with fail;go_roundw;case rel=>exact⟨k+1,by omega,by go_num,qf,jn.o _⟩
      case measure=>simp[intOf];omega
   .have z5:x.take k=x:=ah (by omega);rw[z5]at M;have z:=Hi (show R=mS f ni p.dst false by rw[g.o,show(x.any λq=>decide (q.value=p.value/\q.len=p.len))=false from Bool.eq_false_iff.2 λh=>by obtain⟨u,hu,t⟩:=List.any_eq_true.1 h;exact M.o u hu (by simpa using t)];rfl);obtain⟨O,x1,x2,x3,x4,x5,x6,x7,x8⟩:=j0.o _ H.o;have cS:=Hi (Jg f n mb ni cap A (.pointer (some ⟨cb,0,none⟩)) vn vo vg vr va vb p.dst false K (E.o _ H.o).map hps);have qu:=Hi (jm.o _ H.o);clear M g;go_wp2_with(go_at_call 247;refine cS.o.mono ?_;rintro e w8 ⟨⟨k8,rfl,qs⟩,vd⟩;have q3:=Hi (JK qu.o vd);replace qs:=Hi qs;clear vd);go_ret;exact⟨⟨_,rfl,by rw[z.o];exact qs.o⟩,q3.o⟩
end
theorem Ls (w:Wq):(w.alloc (.cells #[.int .u8 34] 5 (0,0))).ownsRow w.heap.size 5 1 (.slice (some ⟨w.heap.size,0,none⟩) 1 1) 1 (Lib.byteCells [34]):=⟨rfl,.inr ⟨w.heap.size,1,_,rfl,al _,aG w _,al _,by decide,rfl,rfl⟩⟩
theorem Jc (w:Wq):Calls prog 191 #[.string ⟨#[]⟩] w λe w'=>(∃s,e=.returned (.tuple #[.string s,I6 0]))/\JJ w w':=by obtain⟨a,b⟩:=Jj (w.alloc (.cells #[.int .u8 34] 5 (0,0)));have p:Hid (a.heap.size=w.heap.size+1):=Hi (by rw[<-b];simp);have jy:=Hi (show JJ w a by exact Jk b);have o:=Hi (show a.ownsRow w.heap.size 5 1 (.slice (some ⟨w.heap.size,0,none⟩) 1 1) 1 (Lib.byteCells [34])by rw[<-b];exact Ls w);have q:=λty=>run_next_end (P:=prog) a ⟨#[]⟩ 0 ty (lw _);go_enter func191,ntmps191;go_wp2_with fail;have j:=Hi (o.o.alloc (.stringIter ⟨#[]⟩ 0));have jf:=Hi (jy.o.alloc jy.o.size (.stringIter ⟨#[]⟩ 0));have m:Hid ((a.alloc (.stringIter ⟨#[]⟩ 0)).heap.size=w.heap.size+2):=Hi (by have:=p.o;simp;omega);obtain⟨h,d⟩:∃h,h=a.iter ⟨#[]⟩ 0:=⟨_,rfl⟩;rw[<-d]at q;rw[show a.alloc (.stringIter ⟨#[]⟩ 0)=h from d.symm]at j jf m;rw[<-d];clear b d;refine bF 1 ?_;rw[an];go_wp2_with(at_builtin;refine kE KU rfl _ _ rfl w.heap.size 1 _ _ rfl j.o h.heap.size rfl (.int .u8 34) rfl rfl (by decide) (by decide) jf.o.size ?_;intro g cap t k i _;have r:=tU (xs:=[34,34]) k rfl;have l:=Hi (jf.o.t i);clear k i);go_ret2;exact⟨⟨_,rfl⟩,l.o⟩
theorem PV (B b:Nat)(l:bM)(s:Wz)(w:Wq)(h:FL 181 B b l w)(j:l.length+s.size+1<=140737488355328)(hB:B<=w.heap.size):Calls prog 121 #[.pointer (some ⟨b,0,none⟩),.string s] w λe w'=>(∃v,e=.returned v)/\FL 181 B b (l++(s.data.toList++[10])) w'/\Below B w w'/\jc b w w':=by have c1:=Hi (FB Q8 B b l s w h (by omega) hB);have c2:=Hi λw' (i:FL 181 B b (l++s.data.toList) w')(k:B<=w'.heap.size)=>NL Q8 B b (l++s.data.toList) 10 w' i (by rw[aC,show s.data.toList.length=s.size from rfl];exact j) k;clear h;go_enter func121,ntmps121;go_wp2_with(first|(go_at_call 184;refine c1.o.mono ?_;rintro e q ⟨⟨v,rfl⟩,a,d,g⟩;have hA2:=Hi a;have jf:=Hi d;have o:=Hi g;clear a d g)|(go_at_call 198;refine(c2.o _ hA2.o (aI hB jf.o.size)).mono ?_;rintro e r ⟨⟨p,rfl⟩,a,d,g⟩;have hA3:=Hi a;have jl:=Hi (jf.o.t d);have m:=Hi (o.o.t g);clear a d g));go_end0;exact⟨⟨_,rfl⟩,by rw[<-aH];exact hA3.o,jl.o,m.o⟩
theorem DK (o:dc)(h:vI o)(w:Wq)(E:gu w):Calls prog 195 #[.agg #[I6 o.value,I6 o.len,.string o.dst]] w (kZ (fp o) w):=by
 obtain⟨W,b⟩:=Jj (w.alloc (.cells #[I6 o.value,I6 o.len,.string o.dst] 96 (0,0)));have q:=Hi (show JJ w W by rw[<-b];exact(aB w.heap.size w).alloc Jq _);have d:W.heap[w.heap.size]?=some (.cells #[I6 o.value,I6 o.len,.string o.dst] 96 (0,0)):=Jy b;have m:w.heap.size<W.heap.size:=by rw[<-b];simp
 obtain⟨I,_,_⟩:=iX d;have t:=Hi λW' (a:JJ W W')=>iX ((a.block _ m).t d);have k:=Hi λW' (a:JJ W W')=>(JK q.o a);have c1:=Hi (Fq o.value h.value.1 h.value.2 W (E.below q.o));have c2:=Hi λW' (a:JJ W W')=>tZ o.len h.len.1 (by have:=h.len.2;omega) W' (E.below (k.o W' a));have s:=Hi λW'=>vE o.dst h.dst W';have hN:=Hi (show fp o=(((ba (gE o.value)++ba [47])++ez o.len)++ba [32,116,111,32])++o.dst from rfl);have K:=eN h.dst;have L:=i4 h.len.1;have r:=p9 (v:=o.value);generalize j:ba (gE o.value)=Q at*;have J:Q.size<=15:=by rw[<-j];exact r
 generalize ez o.len=T at*;generalize fp o=P at*;clear d j r h;go_enter func195,ntmps195;go_wp2_with(go_at_call 197;refine c1.o.mono ?_;rintro e g ⟨rfl,a⟩;have jf:=Hi a;clear a c1);obtain⟨_,x,y⟩:=t.o _ jf.o;have l:w.heap.size<g.heap.size:=bZ m jf.o.size;have i:=Hi (aB g.heap.size g).drew;have z:¬9223372036854775807<Q.size+1:=by omega
 have C:¬9223372036854775807<Q.size+1+T.size:=by omega
 have D:¬9223372036854775807<Q.size+1+T.size+4:=by omega
 have F:¬9223372036854775807<Q.size+1+T.size+4+o.dst.size:=by omega
 go_region_held3 (λW'=>W'.cell? ⟨w.heap.size,1,none⟩=some (I6 o.len)/\W'.cell? ⟨w.heap.size,2,none⟩=some (.string o.dst))(first|exact hHeld|go_keep|exact⟨(jk.cell (p:=⟨w.heap.size,1,none⟩) l).t x,(jk.cell (p:=⟨w.heap.size,2,none⟩) l).t y⟩)((first|((with_reducible refine(c2.o _ (JK jf.o i.o)).mono ?_);rintro e G ⟨rfl,u⟩;have jk:=(JK i.o u))|((with_reducible refine(s.o _).mono ?_);rintro e H ⟨rfl,rfl⟩)));all_goals go_wp2_with fail;go_ret;exact⟨by rw[hN.o];rfl,k.o _ (JK jf.o jk)⟩
theorem EM (a:Wz)(k:Nat)(x:iV)(r:List iV):kC a k (x::r)=kC ((a++(if k=0 then ba [32,115,101,116,32]else ba [44,32]))++setT x) (k+1) r:=rfl
theorem PM (u:db)(cc:List Value)(B:Nat)(w:Wq)(O:gn w B cc u)(hB:B<=w.heap.size)(h:zO u)(E:gu w):Calls prog 194 #[.agg cc.toArray] w (kZ (io u) w):=by
 obtain⟨Af,cf,Am,cm,As,V,At,ct,rfl,t1,t2,t3,t4⟩:=ew O;have sS:u.sets.length<=V:=by obtain⟨_,_,h,h1,_⟩:=aX.form t3;injection h with _ _ h;subst h;exact h1
 obtain⟨W,N⟩:=Jj (w.alloc (.cells #[I6 u.prio,.slice Af u.frm.length cf,.slice Am u.mat.length cm,.slice As u.sets.length V,.slice At u.dst.length ct] 50 (0,0)));have qu:=Hi (show JJ w W by rw[<-N];exact(aB w.heap.size w).alloc Jq _);have X:W.heap[w.heap.size]?=some (.cells #[I6 u.prio,.slice Af u.frm.length cf,.slice Am u.mat.length cm,.slice As u.sets.length V,.slice At u.dst.length ct] 50 (0,0)):=Jy N;have qg:w.heap.size<W.heap.size:=by rw[<-N];simp
 obtain⟨I,J,K,t,r⟩:=ik X;have Q:=Hi λW' (a:JJ W W')=>ik ((a.block _ qg).t X);have m:=Hi λW' (a:JJ W W')=>(JK qu.o a);have P:=Hi λW' (a:JJ W W') b o (h:b<B)=>av (m.o W' a) hB b o h;have c1:=Hi (tZ u.prio h.prio.1 (by have:=h.prio.2;omega) W (E.below qu.o));have c2:=Hi λW' (a:JJ W W')(h0:0<u.frm.length)=>GO u.frm _ (ba [32]) B W' (t1.keep Jq (P.o W' a)) (by have:=(m.o W' a).size;omega) h0 h.frm.1 (by decide) (by have:=h.frm.2;omega);have c3:=Hi λW' (a:JJ W W')=>Bi u.mat _ B W' (dZ t2 Jq (P.o W' a)) (by have:=(m.o W' a).size;omega) h.mat (E.below (m.o W' a));have c4:=Hi λW' (a:JJ W W')(h0:0<u.dst.length)=>GO u.dst _ (ba [44,32]) B W' (t4.keep Jq (P.o W' a)) (by have:=(m.o W' a).size;omega) h0 h.dst.1 (by decide) (by have:=h.dst.2;omega);have ym:=Hi λW' (a:JJ W W')=>dZ t3 Jq (P.o W' a);have E':=Hi λW' (a:JJ W W')=>E.below (m.o W' a);have z1:=CY h;have z2:=CX h;have z3:=CW h;have z4:=CV h;have zs:=h.sets.1;have v7:=Hi h.sets.2;have zn:=i4 h.prio.1;have ys:=jZ h.frm.1 (ba [32]);have zm:=mN h.mat;have k0:=jZ h.dst.1 (ba [44,32]);have zf:=h.frm.2;have zd:=h.dst.2;have e1:=Hi (show pO u=ba [114,117,108,101,32]++ez u.prio from rfl);have F:=Hi (show si u=if u.frm.length=0 then pO u else pO u++(ba [32,102,114,111,109,32]++gF u.frm (ba [32]))from rfl);have e3:=Hi (show pN u=si u++(ba [32,109,97,116,99,104,32]++gi u.mat)from rfl);have e4:=Hi (show oO u=kC (pN u) 0 u.sets from rfl);have L:=Hi (show io u=if u.dst.length=0 then oO u++ba [32,100,114,111,112]else(oO u++ba [32,116,111,32])++gF u.dst (ba [44,32])from rfl);have yv:(24+(ba [32]).size)*u.frm.length<=1200:=by rw[bn];simp only[aD,aL];omega
 have k7:(24+(ba [44,32]).size)*u.dst.length<=104:=by rw[bn];simp only[aD,aL];omega
 have zj1':(gF u.frm (ba [32])).size<=1200:=by omega
 have zj2':(gF u.dst (ba [44,32])).size<=104:=by omega
 clear ys k0 yv k7 h t1 t2 t3 t4 O X;generalize ez u.prio=T1 at*;generalize gF u.frm (ba [32])=T2 at*;generalize gi u.mat=T3 at*;generalize gF u.dst (ba [44,32])=T4 at*;generalize pO u=R1 at*;generalize si u=R2 at*;generalize pN u=R3 at*;generalize oO u=R4 at*;generalize io u=R5 at*;have l:¬9223372036854775807<5+T1.size:=by omega
 go_enter func194,ntmps194;go_upto_region 2 with(go_at_call 120;refine c1.o.mono ?_;rintro e w2 ⟨rfl,a⟩;have jf:=Hi a;clear a c1);rw[show(⟨#[114,117,108,101,32]⟩:Wz)++T1=R1 from e1.o.symm];clear N I J K t r l;obtain⟨I,J,K,t,r⟩:=Q.o _ jf.o;go_upto_if 13 with fail;go_cut[3] (λs wx=>s=.string R2/\Hid (JJ W wx));case first=>
  by_cases h0:u.frm.length=0
  .have g:=Hi (F.o.t (ax h0));have H:¬((u.frm.length:Int)>0):=by omega
   clear F h0;go_wp2_with fail;go_meet;exact⟨by rw[g.o],jf⟩
  .have g:=Hi (F.o.t (ap h0));have H:((u.frm.length:Int)>0):=by omega
   have y:=Hi (c2.o _ jf.o (by omega));have C:=Hi λW' (a:JJ w2 W')=>(JK jf.o a);have l:¬9223372036854775807<6+T2.size:=by omega
   have M:¬9223372036854775807<R1.size+(6+T2.size):=by omega
   clear F h0 c2;go_wp2_with(go_at_call 193;refine y.o.mono ?_;rintro e w3 ⟨rfl,a⟩;have jl:=Hi (C.o _ a);clear a);go_meet;exact⟨by rw[g.o];rfl,jl⟩
 case rest=>
 obtain⟨rfl,jl⟩:=hcut;obtain⟨wd,rfl⟩:=Jv wc;clear I J K t r jf c2 F;obtain⟨I,J,K,t,r⟩:=Q.o _ jl.o;have y:=Hi (c3.o _ jl.o);have C:=Hi λW' (a:JJ wd W')=>(JK jl.o a);have l:¬9223372036854775807<7+T3.size:=by omega
 have M:¬9223372036854775807<R2.size+(7+T3.size):=by omega
 clear c3;go_upto_region 5 with(go_at_call 123;refine y.o.mono ?_;rintro e w4 ⟨rfl,a⟩;have j3:=Hi (C.o _ a);clear a);rw[show R2++((⟨#[32,109,97,116,99,104,32]⟩:Wz)++T3)=R3 from e3.o.symm];clear I J K t r l M y C;obtain⟨_,_,_,t,r⟩:=Q.o _ j3.o;go_wp2_with fail;clear t r;have kl:Hid (R4=kC R3 0 (u.sets.drop 0)/\R3.size<=5585+47*0):=Hi ⟨e4.o,z3⟩;go_loopw [3,29] (λs i wr=>∃(k:Nat)(S:Wz),k<=u.sets.length/\i=I6 k/\s=.string S/\Hid (R4=kC S k (u.sets.drop k)/\S.size<=5585+47*k)/\Hid (JJ W wr)) (λ_ i _=>u.sets.length-(intOf i).toNat);case atStart=>exact⟨0,R3,aK _,rfl,rfl,kl,j3⟩
 case round=>
  obtain⟨k,S,hkl,rfl,rfl,U,z⟩:=hrel;obtain⟨d,rfl⟩:=Jv wr;clear kl j3 jl;obtain⟨q,HR2⟩:=U.o;by_cases hlt9:k<u.sets.length
  .have zk:=ym.o _ z.o;obtain⟨b,off,rfl⟩:=aX.addr zk (by omega);obtain⟨_,cx,x,Z,⟨O,_⟩,Y⟩:=aX.el zk hlt9;subst O;have a0:d.cell? ⟨b,off+k*2,none⟩=some (.string x.field):=Y 0 _ rfl;have a1:d.cell? ⟨b,off+k*2+1,none⟩=some (I6 x.value):=Y 1 _ rfl;obtain⟨kv,z9,yx⟩:=v7.o x (aE Z);have zx:=eN kv;have zv:=i4 z9;rw[fP Z,EM]at q;have qi:setT x=(x.field++ba [32,61,32])++ez x.value:=rfl;rw[qi]at q;have cV:=Hi λW' (a:JJ W W')=>tZ x.value z9 yx W' (E'.o W' a);have cF:=Hi λW'=>vE x.field kv W';obtain⟨D,kp⟩:∃D,D=ez x.value:=⟨_,rfl⟩;rw[<-kp]at q zv cV;obtain⟨j,T⟩:=Jj (d.alloc (.cells #[.string x.field,I6 x.value] 127 (0,0)));have kd:JJ d j:=Jk T;have jn:=Hi (JK z.o kd);have v5:j.heap[d.heap.size]?=some (.cells #[.string x.field,I6 x.value] 127 (0,0)):=Jy T;have ks:d.heap.size<j.heap.size:=by rw[<-T];simp
   have q0:j.cell? ⟨d.heap.size,0,none⟩=some (.string x.field):=by rw[aA j _ _ _ _ _ v5];rfl
   have q1:j.cell? ⟨d.heap.size,1,none⟩=some (I6 x.value):=by rw[aA j _ _ _ _ _ v5];rfl
   have G:=Hi q;have hd:=Hi (aB j.heap.size j).drew;have hk12:k<12:=by omega
   clear U q Y zk Z qi kp v5 kd;obtain⟨v,R⟩:∃v,v=S++(if k=0 then ba [32,115,101,116,32]else ba [44,32]):=⟨_,rfl⟩;have zS2:v.size<=S.size+5:=by rw[R,aJ];split<;>simp only[bn,aD,aL]<;>omega
   rw[<-R]at G;have vp:=Hi R;clear R;go_upto_if 35 with fail;clear T;go_cut[3] (λs wx=>s=.string v/\wx=j);case first=>
    by_cases h0:k=0
    .have g:=Hi (vp.o.t (by rw[ax h0]));have H:((k:Int)==0)=true:=by simp[h0]
     have l:¬9223372036854775807<S.size+5:=by omega
     subst h0;go_wp2_with fail;go_meet;exact⟨by rw[g.o];rfl,rfl⟩
    .have g:=Hi (vp.o.t (by rw[ap h0]));have H:((k:Int)==0)=false:=by simp;omega
     have l:¬9223372036854775807<S.size+2:=by omega
     go_wp2_with fail;go_meet;exact⟨by rw[g.o];rfl,rfl⟩
   case rest=>
   obtain⟨rfl,rfl⟩:=hcut;have l:¬9223372036854775807<x.field.size+3:=by omega
   have M:¬9223372036854775807<x.field.size+3+D.size:=by omega
   have g3:¬9223372036854775807<v.size+(x.field.size+3+D.size):=by omega
   go_upto_region 11 with fail;go_region_held3 (λW'=>W'.cell? ⟨d.heap.size,0,none⟩=some (.string x.field)/\W'.cell? ⟨d.heap.size,1,none⟩=some (I6 x.value))(first|exact hHeld|go_keep|exact⟨(jk.cell (p:=⟨d.heap.size,0,none⟩) ks).t q0,(jk.cell (p:=⟨d.heap.size,1,none⟩) ks).t q1⟩)((first|((with_reducible refine(cV.o _ (JK jn.o hd.o)).mono ?_);rintro e wy ⟨rfl,v6⟩;have jk:=(JK hd.o v6))|((with_reducible refine(cF.o _).mono ?_);rintro e wz ⟨rfl,rfl⟩)));all_goals
    have q3:=Hi (JK jn.o jk);go_wp2_with fail;go_roundw;case rel=>exact⟨k+1,v++((x.field++ba [32,61,32])++D),by omega,by go_num,rfl,Hi ⟨G.o,by simp only[aJ,bn,aD,aL];omega⟩,q3⟩
    case measure=>simp[intOf];omega
  .rw[fB hlt9]at q;have G:Hid (R4=S):=Hi q;clear U q;obtain⟨_,_,_,_,r⟩:=Q.o _ z.o;by_cases h0:u.dst.length=0
   .have g:=Hi (L.o.t (ax h0));have H:((u.dst.length:Int)==0)=true:=beq_iff_eq.2 (by omega);have l:¬9223372036854775807<S.size+5:=by omega
    clear L;go_wp2_with fail;go_ret;exact⟨by rw[g.o,G.o];rfl,m.o _ z.o⟩
   .have g:=Hi (L.o.t (ap h0));have H:((u.dst.length:Int)==0)=false:=beq_eq_false_iff_ne.2 (by omega);have y:=Hi (c4.o _ z.o (by omega));have C:=Hi λW' (a:JJ d W')=>m.o _ (JK z.o a);have l:¬9223372036854775807<S.size+4:=by omega
    have M:¬9223372036854775807<S.size+4+T4.size:=by omega
    clear L c4;go_wp2_with(go_at_call 193;refine y.o.mono ?_;rintro e w3 ⟨rfl,a⟩;have jl:=Hi (C.o _ a);clear a);go_ret;exact⟨by rw[g.o,G.o];rfl,jl.o⟩
end Go.Proofs.YtgfgoaeaicefcaaGreatDoor
