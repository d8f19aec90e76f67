/- Part of DeltaBack. -/
import Derived.Test.YtgfgoaeaicefcaaGreatDoorQA9
import Derived.Test.YtgfgoaeaicefcaaGreatDoorQA7
set_option maxHeartbeats 16000000
set_option maxRecDepth 100000
set_option linter.all false
namespace Go.Proofs.YtgfgoaeaicefcaaGreatDoor
open Go.RowKit Tryz
variable {w:Wq}{g k:Nat}
attribute [local go_sem ↓] Go.wp_at_zero Go.wp_at_succ
def Pk (w:Wq)(L:List Pc)(e:Ending)(w':Wq):Prop:=∃v a,e=.returned (.tuple #[v,I6 0,I6 0,I6 0])/\w'.ownsRow (w.heap.size+1) 198 4 v a.length (pQ a)/\JJ w w'/\a.length<=32769/\a.map Tk.key=L++[(1,⟨#[10]⟩)]
theorem Br (s:Wz){L:List Pc}(h:Lx (bs s) L)(i:L≠[])(hs:s.size<=16384)(w:Wq)(E:gu w):Calls prog 21 #[.string s] w (Pk w L):=by
 have n:¬((s.size:Int)>16384):=by omega
 have c:=Hi (Ob s L h i w.heap.size (w.alloc (.cells #[.string s,I6 0,I6 1,I6 1,.bool false,.slice none 0 0] 112 (0,0))) (aG w _) hs (λw' d=>E.below (((aB w.heap.size w).alloc Jq _).t d)));have jy:=Hi ((aB w.heap.size w).alloc Jq (.cells #[.string s,I6 0,I6 1,I6 1,.bool false,.slice none 0 0] 112 (0,0)));clear E hs h i;go_enter func21,ntmps21;go_wp2_with fail;refine c.o.mono ?_;rintro e p ⟨rfl,m,l,a,b,hB,j,f⟩;clear c;have o:=a.c5;have d:=Hi (jy.o.t hB);have b:=Hi b;have a:=Hi a;have f:=Hi f;clear hB jy;go_wp2_with fail;((try simp only[Exit.inBlock,Exit.then]);refine dJ (jC rfl _ _ _) rfl ?_);exact⟨_,l,rfl,b.o,d.o,j,f.o⟩
end Go.Proofs.YtgfgoaeaicefcaaGreatDoor
namespace Go.Proofs.YtgfgoaeaicefcaaGreatDoor
open Go.RowKit Tryz
variable {w:Wq}{g k:Nat}
def Bq (w:Wq)(e:Ending)(w':Wq):Prop:=e=.returned (.bool true)/\JJ w w'
theorem Ly {c cap:Nat}{a b:Tk}(h:w.ownsRow c 198 4 (.slice (some ⟨g,0,none⟩) 2 cap) 2 (pQ [a,b])):w.cell? ⟨g,0,none⟩=some (I6 a.kind)/\w.cell? ⟨g,1,none⟩=some (.string a.text):=by refine⟨?_,?_⟩<;>rw[h.cellAt _ (by omega)]<;>rfl
theorem OF {c:List Tk}{x y:Pc}(h:c.map Tk.key=[x]++[y]):∃a b,c=[a,b]/\a.kind=x.1/\a.text=x.2:=by match c,h with|[a,b],h=>simp only[bP,aW,ag,IX]at h;obtain⟨rfl,_⟩:=h;exact⟨a,b,rfl,rfl,rfl⟩
theorem FQ (s:Wz)(h2:cZ (bs s)=true\/∃p,s=ba [37]++p/\1<=p.size/\p.size<=32/\mZ p=true)(w:Wq)(E:gu w):(cZ (bs s)=true->Calls prog 308 #[.string s] w (Bq w))/\((∃p,s=ba [37]++p/\1<=p.size/\p.size<=32/\mZ p=true)->Calls prog 307 #[.string s] w (Bq w)):=by
 have bA:(s.toList==s.toList)=true:=by simp
 refine⟨λh=>?_,λ⟨p,hp,p1,p2,p3⟩=>?_⟩;have f:=mO h;have i:=Hi (Br s (Jp (.name h rfl)) (by simp) (by omega) w E);clear E h h2 f;go_enter func308,ntmps308;rotate_left;have f:s.size<=33:=by rw[hp,aJ,bn,fV];omega
 have i:=Hi (Br s (by have:=Jp (.pat p1 p2 p3 rfl);rw[<-hp]at this;exact this) (by simp) (by omega) w E);clear E h2 f hp;go_enter func307,ntmps307;all_goals go_wp2_with(go_at_call 21;refine i.o.mono ?_;rintro e w' ⟨v,r,rfl,d,c,_,j⟩;obtain⟨a,b,rfl,l,m⟩:=OF j;obtain⟨g,q,rfl⟩:=Go.Joins.ownsRow_form d (by show(0:Nat)<2;decide);obtain⟨n,o⟩:=Ly d;rw[l]at n;rw[m]at o;have c:=Hi c;clear d l m j);go_ret;exact⟨rfl,c.o⟩
theorem B5 (s:Wz)(h:cZ (bs s)=true)(w:Wq)(E:gu w):Calls prog 308 #[.string s] w (Bq w):=(FQ s (.inl h) w E).1 h
theorem vM (p:Wz)(h1:1<=p.size)(h2:p.size<=32)(h:mZ p=true)(w:Wq)(E:gu w):Calls prog 307 #[.string (⟨#[37]⟩++p)] w (Bq w):=(FQ _ (.inr ⟨p,rfl,h1,h2,h⟩) w E).2 ⟨p,rfl,h1,h2,h⟩
theorem Bh {b c d:Value}{t:TypeId}{a:Nat×Nat}(h:w.heap[g]?=some (.cells #[b,c,d] t a)):w.cell? ⟨g,0,none⟩=some b/\w.cell? ⟨g,1,none⟩=some c/\w.cell? ⟨g,2,none⟩=some d:=by refine⟨?_,?_,?_⟩<;>rw[aA w g _ _ t a h]<;>rfl
theorem Gb (t:eF)(h:sJ t)(w:Wq)(j0:gu w):Calls prog 264 #[.agg (fM t).toArray] w (Bq w):=by
 obtain⟨W,hW⟩:=Jj (w.alloc (.cells (fM t).toArray 287 (0,0)));have kk:=Hi (show JJ w W by rw[<-hW];exact(aB w.heap.size w).alloc Jq _);have m:W.heap[w.heap.size]?=some (.cells (fM t).toArray 287 (0,0)):=Jy hW;have a:=(Array.getElem?_eq_some_iff.1 m).1;have s:=Hi λw' (hb:JJ W w')=>(j0.below kk.o).below hb;have cN:=Hi λw' s=>B5 t.field h.nm w' s;have cP:=Hi λ(hf:t.form=4) w' s=>vM t.pat (h.pat4 hf).1.1 (h.pat4 hf).1.2 (h.pat4 hf).2 w' s;have b3:¬t.field.toList=[97,110,121]:=λe=>h.nany (sN (Array.ext' (by rw[ab]at e;exact e)));have b4:¬t.field.toList=[110,111,110,101]:=λe=>h.nnone (sN (Array.ext' (by rw[ab]at e;exact e)));have b1:(t.field.toList==[97,110,121])=false:=by rw[dU];exact b3
 have b2:(t.field.toList==[110,111,110,101])=false:=by rw[dU];exact b4
 have hop:=h.op;have hfm:=h.form;have htw:=h.two;have kp:=h.lo;have z9:=h.hi;have kl:=h.len;have zp:=h.pat;have x7:=λhf=>(h.pat4 hf).1.2;clear h j0;obtain⟨tf,op,z,lo,hi,d,f⟩:=t;simp only[fM]at*;obtain⟨kp,zv⟩:=kp;obtain⟨z9,qf⟩:=z9;obtain⟨kl,qt⟩:=kl;have y:=aA W _ 0 _ _ _ m;have F:=aA W _ 1 _ _ _ m;have G:=aA W _ 2 _ _ _ m;have l:=aA W _ 3 _ _ _ m;have q:=aA W _ 4 _ _ _ m;have r:=aA W _ 5 _ _ _ m;have H:=aA W _ 6 _ _ _ m;simp only[aQ,aN,aO]at y F G l q r H;go_enter func264,ntmps264;go_upto_region 1 with fail;clear hW;have kz:=Hi λo=>(aB W.heap.size W).alloc Jq o;go_cut[3] (λu wx=>u=.pointer (some ⟨W.heap.size,0,none⟩)/\Hid (wx.heap[W.heap.size]?=some (.cells #[.string tf,I6 op,I6 z,I6 0,I6 0,I6 0,.string ⟨#[]⟩] 44 (0,0)))/\Hid (JJ W wx));case first=>go_wp2_with fail;go_meet;exact⟨rfl,Hi (aG W _),kz.o _⟩
 case rest=>
 obtain⟨rfl,A,jn⟩:=hcut;obtain⟨b,rfl⟩:=Jv wc;obtain⟨M,hM⟩:∃M,M=W.heap.size:=⟨_,rfl⟩;rw[<-hM]at A;have hMl:=(Array.getElem?_eq_some_iff.1 A.o).1;have c:Hid (∀(i:Nat)(u:Value),JJ W (b.setCell ⟨M,i,none⟩ u)):=Hi λi u=>jn.o.setCell (p:=⟨M,i,none⟩) (show W.heap.size<=M by omega) u;have n:Hid (∀(i j:Nat)(u v:Value),JJ W ((b.setCell ⟨M,i,none⟩ u).setCell ⟨M,j,none⟩ v)):=Hi λi j u v=>(c.o i u).setCell (p:=⟨M,j,none⟩) (show W.heap.size<=M by omega) v;have kf:=Hi λi u=>am b M i _ _ u A.o;have hs2:=Hi λi j u v=>am _ M j _ _ v (kf.o i u);have jt:w.heap.size<W.heap.size:=a;have J:=(jn.o.cell (p:=⟨w.heap.size,0,none⟩) a).t y;have K:=(jn.o.cell (p:=⟨w.heap.size,1,none⟩) a).t F;have L:=(jn.o.cell (p:=⟨w.heap.size,2,none⟩) a).t G;have N:=(jn.o.cell (p:=⟨w.heap.size,3,none⟩) a).t l;have O:=(jn.o.cell (p:=⟨w.heap.size,4,none⟩) a).t q;have P:=(jn.o.cell (p:=⟨w.heap.size,5,none⟩) a).t r;have Q:=(jn.o.cell (p:=⟨w.heap.size,6,none⟩) a).t H;obtain⟨R,S,T,U,V,Y,Z⟩:=au A.o;have f0:∀i,b.frozen? ⟨M,i,none⟩=false:=af A.o;subst hM;replace y:=Hi y;replace F:=Hi F;replace G:=Hi G;replace l:=Hi l;replace q:=Hi q;replace r:=Hi r;replace H:=Hi H;rcases(show z=1\/z=2\/z=3\/z=4 by omega)with rfl|rfl|rfl|rfl;case' inl=>
  obtain rfl:hi=0:=qf (by decide);obtain rfl:d=0:=qt (by decide);obtain rfl:f=⟨#[]⟩:=tc (List.length_eq_zero_iff.1 (zp (by decide)));go_wp2_with fail;generalize jl:World.alloc (b.setCell ⟨W.heap.size,3,none⟩ (I6 lo)) _=X;have x:Hid (JJ W X):=Hi (by rw[<-jl];exact(c.o _ _).alloc (c.o _ _).size _);have j9:Hid (X.heap[b.heap.size]?=some (.cells #[I6 lo,I6 0,I6 0] 3 (0,0))):=Hi (by rw[<-jl,<-il b ⟨W.heap.size,3,none⟩ (I6 lo)];exact aG _ _);obtain⟨v0,v1,v2⟩:=Bh j9.o;clear jl j9 J K L N O P Q R S T U V Y Z f0;have kg:(0:Int)<=0/\(0:Int)<=4294967295:=by decide
  have hv1:(0:Int)<=0/\(0:Int)<=4294967295:=by decide
 case' inr.inl=>
  obtain rfl:hi=0:=qf (by decide);obtain rfl:f=⟨#[]⟩:=tc (List.length_eq_zero_iff.1 (zp (by decide)));go_upto_region 7 with fail;have qw:¬w.heap.size=W.heap.size:=by omega
  have qu:¬W.heap.size=w.heap.size:=by omega
  have B:=λ(i:Nat)(u:Value)=>((c.o i u).drew.cell (p:=⟨w.heap.size,3,none⟩) a).t l.o;have D:=λ(i:Nat)(u:Value)=>((c.o i u).drew.cell (p:=⟨w.heap.size,5,none⟩) a).t r.o;have C:=λ(i j:Nat)(u v:Value)=>((n.o i j u v).drew.cell (p:=⟨w.heap.size,3,none⟩) a).t l.o;have E:=λ(i j:Nat)(u v:Value)=>((n.o i j u v).drew.cell (p:=⟨w.heap.size,5,none⟩) a).t r.o;go_region_held3 (λW'=>W'.cell? ⟨w.heap.size,3,none⟩=some (I6 lo)/\W'.cell? ⟨w.heap.size,5,none⟩=some (I6 d)) (first|exact hHeld|go_keep|exact⟨B _ _,D _ _⟩|exact⟨C _ _ _ _,E _ _ _ _⟩) (fail);go_wp2_with fail;generalize jl:World.drew (World.alloc (World.setCell (World.setCell b ⟨W.heap.size,3,none⟩ (I6 lo)) ⟨W.heap.size,5,none⟩ (I6 d)) _)=X;have x:Hid (JJ W X):=Hi (by rw[<-jl];exact((n.o _ _ _ _).alloc (n.o _ _ _ _).size _).drew);have j9:Hid (X.heap[b.heap.size]?=some (.cells #[I6 lo,I6 0,I6 d] 3 (0,0))):=Hi (by rw[<-jl,<-il b ⟨W.heap.size,3,none⟩ (I6 lo),<-il (World.setCell b ⟨W.heap.size,3,none⟩ (I6 lo)) ⟨W.heap.size,5,none⟩ (I6 d)];exact aG _ _);obtain⟨v0,v1,v2⟩:=Bh j9.o;clear jl j9 J K L N O P Q R S T U V Y Z f0;have kg:(0:Int)<=d/\(d:Int)<=4294967295:=by omega
  clear qw qu B D C E
 case' inr.inr.inl=>
  obtain rfl:d=0:=qt (by decide);obtain rfl:f=⟨#[]⟩:=tc (List.length_eq_zero_iff.1 (zp (by decide)));go_upto_region 9 with fail;have qw:¬w.heap.size=W.heap.size:=by omega
  have qu:¬W.heap.size=w.heap.size:=by omega
  have B:=λ(i:Nat)(u:Value)=>((c.o i u).drew.cell (p:=⟨w.heap.size,3,none⟩) a).t l.o;have D:=λ(i:Nat)(u:Value)=>((c.o i u).drew.cell (p:=⟨w.heap.size,4,none⟩) a).t q.o;have C:=λ(i j:Nat)(u v:Value)=>((n.o i j u v).drew.cell (p:=⟨w.heap.size,3,none⟩) a).t l.o;have E:=λ(i j:Nat)(u v:Value)=>((n.o i j u v).drew.cell (p:=⟨w.heap.size,4,none⟩) a).t q.o;go_region_held3 (λW'=>W'.cell? ⟨w.heap.size,3,none⟩=some (I6 lo)/\W'.cell? ⟨w.heap.size,4,none⟩=some (I6 hi)) (first|exact hHeld|go_keep|exact⟨B _ _,D _ _⟩|exact⟨C _ _ _ _,E _ _ _ _⟩) (fail);go_wp2_with fail;generalize jl:World.drew (World.alloc (World.setCell (World.setCell b ⟨W.heap.size,3,none⟩ (I6 lo)) ⟨W.heap.size,4,none⟩ (I6 hi)) _)=X;have x:Hid (JJ W X):=Hi (by rw[<-jl];exact((n.o _ _ _ _).alloc (n.o _ _ _ _).size _).drew);have j9:Hid (X.heap[b.heap.size]?=some (.cells #[I6 lo,I6 hi,I6 0] 3 (0,0))):=Hi (by rw[<-jl,<-il b ⟨W.heap.size,3,none⟩ (I6 lo),<-il (World.setCell b ⟨W.heap.size,3,none⟩ (I6 lo)) ⟨W.heap.size,4,none⟩ (I6 hi)];exact aG _ _);obtain⟨v0,v1,v2⟩:=Bh j9.o;clear jl j9 J K L N O P Q R S T U V Y Z f0;have kg:(0:Int)<=hi/\(hi:Int)<=4294967295:=by omega
  clear qw qu B D C E
 case' inr.inr.inr=>
  obtain rfl:hi=0:=qf (by decide);obtain rfl:d=0:=qt (by decide);obtain rfl:lo=0:=zv rfl;have cp:=Hi (cP.o rfl (b.setCell ⟨W.heap.size,6,none⟩ (.string f)) (s.o _ (c.o _ _)));have zf:=Hi (c.o 6 (.string f));have I:(b.setCell ⟨W.heap.size,6,none⟩ (.string f)).heap[W.heap.size]?=some (.cells #[.string tf,I6 op,I6 4,I6 0,I6 0,I6 0,.string f] 44 (0,0)):=by simpa using kf.o 6 (.string f)
  have zn:=Hi (Array.getElem?_eq_some_iff.1 I).1;replace I:=Hi I;have hp5:=x7 rfl;have g1:¬9223372036854775807<(ByteArray.mk #[37]).size+f.size:=by rw[show(ByteArray.mk #[37]).size=1 from rfl];omega
  go_wp2_with(go_at_call 307;refine cp.o.mono ?_;rintro e w8 ⟨rfl,j4⟩;have j8:=Hi (JK zf.o j4);obtain⟨q0,q1,q2,q3,q4,q5,q6⟩:=au ((j4.block _ zn.o).t I.o);have p0:=(j8.o.cell (p:=⟨w.heap.size,0,none⟩) a).t y.o;have p1:=(j8.o.cell (p:=⟨w.heap.size,1,none⟩) a).t F.o;have p2:=(j8.o.cell (p:=⟨w.heap.size,2,none⟩) a).t G.o;have p3:=(j8.o.cell (p:=⟨w.heap.size,3,none⟩) a).t l.o;have p4:=(j8.o.cell (p:=⟨w.heap.size,4,none⟩) a).t q.o;have p5:=(j8.o.cell (p:=⟨w.heap.size,5,none⟩) a).t r.o;have p6:=(j8.o.cell (p:=⟨w.heap.size,6,none⟩) a).t H.o;clear j4 J K L N O P Q R S T U V Y Z);generalize jl:World.alloc w8 _=X;have x:Hid (JJ W X):=Hi (by rw[<-jl];exact j8.o.alloc j8.o.size _);obtain⟨v0,v1,v2⟩:=Bh (show X.heap[w8.heap.size]?=some (.cells #[I6 0,I6 0,I6 0] 3 (0,0))by exact Jy jl);clear jl q0 q1 q2 q3 q4 q5 q6 p0 p1 p2 p3 p4 p5 p6
 all_goals have u0:=(x.o.cell (p:=⟨w.heap.size,0,none⟩) a).t y.o;have cn:=Hi (cN.o X (s.o X x.o));have kv:=Hi (JK kk.o x.o);refine bF 4 ?_;rw[an];go_wp2_with fail;rw[an];go_wp2_with fail;rw[an];go_wp2_with fail;rw[an];go_wp2_with(go_at_call 308;refine cn.o.mono ?_;rintro e w9 ⟨rfl,qg⟩;have zs:=Hi (JK kv.o qg);have u9:=(qg.cell (p:=⟨w.heap.size,0,none⟩) (bB X _ u0)).t u0;clear qg);go_ret;exact⟨rfl,zs.o⟩
theorem LU (l:List de)(v:Value)(B:Nat)(w:Wq)(d:iq w B v l)(hB:B<=w.heap.size)(h:IU l)(E:gu w):Calls prog 199 #[v] w (Pm (gi l) w):=by
 obtain⟨zm,t,j,zq,r⟩:=h;obtain⟨A,cap,rfl,k7,hcap⟩:=aX.form d;have s:=Hi (FS l _ B w d hB zm);have hR:Hid (gi l=t.text):=Hi (by unfold gi;rw[j]);have D:=mm j r;have kn:=rD j;have k9:=bJ.text_le D;have m:=Hi (pE t (by omega));have p:=Hi (qj t D (by omega));obtain⟨T,x,c,hm,hn,hq⟩:=mH t;obtain⟨T',x',S,kx,kw,kq⟩:=pF t;obtain⟨rfl,rfl⟩:T=T'/\x=x':=by have:=c.symm.t S;injection this with a b;exact⟨a,b⟩
 replace m:=Hi λw'=>m.o x w' ⟨T,c⟩;replace p:=Hi λw' hE=>p.o x w' ⟨T,c⟩ hE;rw[j]at s;replace c:=Hi c;replace d:=Hi d;replace E:=Hi E;replace r:=Hi r;clear j kn D k9 S;generalize qG t=F at*;generalize xG t=F2 at*;generalize t.nest=n at*;generalize gi l=R at*;generalize t.text=R2 at*;go_enter func199,ntmps199;go_wp2_with(go_at_call 248;refine s.o.mono ?_;rintro e w3 ⟨⟨tv,b,rfl,rfl,ki⟩,V⟩;obtain rfl:tv=.iface T x:=(ki t rfl).t c.o;simp only[rJ];have Q:=Hi V;clear V ki);have jy:=Q;clear Q s;go_loopw [20] (λi wr=>∃k:Nat,k<=l.length/\i=I6 k/\Hid (JJ w wr))(λi _=>l.length-(intOf i).toNat);case atStart=>exact⟨0,aK _,rfl,jy⟩
 case round=>
  obtain⟨k,hk,rfl,jf⟩:=hrel;clear jy;by_cases jt:k<l.length
  .have hN:=iq.below d.o jf.o hB;obtain⟨b,off,rfl⟩:=aX.addr hN (by omega);obtain⟨hb,y,P,k3,k5,G,H,I,J,K,L,M,N⟩:=xl hN jt;have kj:=Hi (r.o y (aE P));clear hN P m p hm hn hq kx kw kq zq;obtain⟨q,⟨Y,op,O,lo,hi,W,X⟩⟩:=y;simp only at k3 k5 G H I J K L M N kj;have xs:=jf.o.size;have jm:=Hi λo=>jf.o.alloc xs o;go_upto_region 8 with fail;go_cut[7] (λu Z=>u=.pointer (some ⟨wr.heap.size,0,none⟩)/\Hid (Z.heap[wr.heap.size]?=some (.cells #[I6 q,.string Y,I6 op,I6 O,I6 lo,I6 hi,I6 W,.string X] 46 (0,0)))/\Hid (JJ w Z));case first=>go_wp2_with fail;go_meet;exact⟨rfl,Hi (aG wr _),jm.o _⟩
   case rest=>
   obtain⟨rfl,z,jn⟩:=hcut;clear jm G H I J K L M N;have n0:wc.cell? ⟨wr.heap.size,0,none⟩=some (I6 q):=by rw[aA wc _ _ _ _ _ z.o];rfl
   obtain⟨n1,n2,n3,n4,n5,n6,n7⟩:=E6 z.o;clear z;by_cases h3:q=3
   .have cW:=Hi (Gb ⟨Y,op,O,lo,hi,W,X⟩ (kj.o h3) wc (E.o.below jn.o));subst h3;go_wp2_with(go_at_call 264;refine cW.o.mono ?_;rintro e w5 ⟨rfl,f⟩;have C:=Hi (JK jn.o f);clear f);go_roundw;case rel=>exact⟨k+1,by omega,by go_num,C⟩
    case measure=>simp[intOf];omega
   .have h3':(q==3)=false:=by simp[h3]
    go_wp2_with fail;go_roundw;case rel=>exact⟨k+1,by omega,by go_num,jn⟩
    case measure=>simp[intOf];omega
  .go_wp2_with(first|((with_reducible refine(m.o _).mono ?_);rintro e w4 ⟨rfl,U⟩;have z7:=Hi (JK jf.o U);clear U)|((with_reducible refine(p.o _ (E.o.below z7.o)).mono ?_);rintro e w6 ⟨rfl,f⟩;have C:=Hi (JK z7.o f);clear f));go_ret2;exact⟨by rw[hR.o];rfl,C.o⟩
def RC (s:Wz)(w:Wq)(e:Ending)(a:Wq):Prop:=e=.returned (.string s)/\a=w
theorem vE (s:Wz)(h:bo s=true)(w:Wq):Calls prog 122 #[.string s] w (RC s w):=by have b:=eN h;have c:=Hi λw'=>oZ s w' (by omega);have a:Hid ((cZ (bs s)&&!lD s)=true):=Hi h;go_enter func122,ntmps122;go_wp2_with(go_at_call 138;refine(c.o _).mono ?_;rintro e d ⟨rfl,rfl⟩;rw[a.o];clear c);go_ret;exact⟨rfl,rfl⟩
theorem tZ (v:Int)(h0:0<=v)(h1:v<=4294967295)(w:Wq)(E:gu w):Calls prog 120 #[I6 v] w (kZ (ez v) w):=by
 have c1:=Hi (strconv_Itoa v (by omega) (by omega) w E.pow);have c2:=Hi (Fq v h0 h1 w E);have f:decide (v>=0)=true:=aV h0;by_cases h:v<65536
 .have hN:=Hi (show ez v=eT v by unfold ez;rw[ax h]);have d:decide (v<65536)=true:=aV h;go_enter func120,ntmps120;go_wp2_with(go_at_call 43;refine c1.o.mono ?_;rintro e c ⟨rfl,k,os,b⟩;have a:Hid (JJ w c):=Hi (b▸tn w k os);clear b);go_ret;exact⟨by rw[hN.o];rfl,a.o⟩
 .have hN:=Hi (show ez v=ba (gE v)by unfold ez;rw[ap h]);have d:decide (v<65536)=false:=aM h;go_enter func120,ntmps120;go_wp2_with(go_at_call 197;refine c2.o.mono ?_;rintro e c ⟨rfl,a⟩;have jk:=Hi a;clear a);go_ret;exact⟨by rw[hN.o];rfl,jk.o⟩
theorem Bi (l:List de)(v:Value)(B:Nat)(w:Wq)(b:iq w B v l)(hB:B<=w.heap.size)(d:IU l)(E:gu w):Calls prog 123 #[v] w (kZ (gi l) w):=by have c:=Hi (LU l v B w b hB d E);generalize gi l=T at*;clear b;go_enter func123,ntmps123;go_wp2_with(go_at_call 199;refine c.o.mono ?_;rintro e f ⟨rfl,a⟩;have jk:=Hi a;clear a);go_ret;exact⟨rfl,jk.o⟩
theorem HI {l:List Wz}(h:jb l){x:Wz}(a:l[k]?=some x):bo x=true:=h x (aE a)
theorem GO (l:List Wz)(v:Value)(a:Wz)(B:Nat)(w:Wq)(d:dk w B v l)(hB:B<=w.heap.size)(h0:0<l.length)(h:jb l)(hs:a.size<=1000)(h1:l.length<=1000):Calls prog 193 #[v,.string a] w (kZ (gF l a) w):=by
 obtain⟨A,cap,rfl,s,u⟩:=aX.form d;obtain⟨b,off,rfl⟩:=aX.addr d h0;have z:=jZ h a;have q:(Lib.join (l.map (·.data.toList)) a.data.toList).length<=140737488355328:=by
  have e:(gF l a).size=(Lib.join (l.map (·.data.toList)) a.data.toList).length:=by unfold gF;rfl
  rw[<-e];have:(24+a.size)*l.length<=1024*1000:=yw (by omega) h1;omega
 have C:b<B:=(fx d h0).1;have c:=Hi (strings_Join b off cap l a w (λj x f=>by obtain⟨_,y,m,_,n⟩:=fx d (List.getElem?_eq_some_iff.1 f).1;rw[f]at m;injection m with m;rw[n,m]) (by omega) u.2 s q);replace d:=Hi d;replace h:=Hi h;have o:Hid ((⟨(Lib.join (l.map (·.data.toList)) a.data.toList).toArray⟩:Wz)=gF l a):=Hi rfl;rw[o.o]at c;clear o z q;generalize gF l a=T at*;go_enter func193,ntmps193;go_wp2_with fail;go_loopw [9] (λi wr=>wr=w/\∃k:Nat,k<=l.length/\i=I6 k)(λi _=>l.length-(intOf i).toNat);case atStart=>exact⟨rfl,0,aK _,rfl⟩
 case round=>
  obtain⟨rfl,k,D,rfl⟩:=hrel;by_cases jt:k<l.length
  .obtain⟨_,x,f,_,n⟩:=fx d.o jt;have r:=Hi λW=>vE x (HI h.o f) W;clear f;go_wp2_with(go_at_call 122;refine(r.o _).mono ?_;rintro e t ⟨rfl,rfl⟩);go_roundw;case rel=>exact⟨by trivial,k+1,by omega,by go_num⟩
   case measure=>simp[intOf];omega
  .go_wp2_with(go_at_call 103;refine c.o.mono ?_;rintro e t ⟨rfl,p⟩;have jk:=Hi p;clear p);go_ret;exact⟨rfl,jk.o⟩
theorem DC:∀(a b:bM),(∀c∈a,¬c=46)->Lib.indexByte (a++46::b) 46=a.length
 |[],b,_=>rfl|x::r,b,h=>by
  have h1:=DC r b λc d=>h c (by simp[d]);have h2:(x==(46:UInt8))=false:=by simpa using h x (by simp)
  show(if x==46 then 0 else if Lib.indexByte (r++46::b) 46==-1 then-1 else Lib.indexByte (r++46::b) 46+1)=_;rw[h2,h1,ap (by simp),ap (by simp)];simp
theorem He {s:Wz}(h:bo s=true):∀c∈s.data.toList,¬c=46:=λc a e=>by unfold bo at h;rw[aS]at h;have:=((jq _).1 h.1).2.1 c a;rw[e]at this;cases this
theorem Ka {a b:Wz}(d:bo a=true):Lib.cut (ju a b).data.toList [46]=(a.data.toList,b.data.toList,true):=by
 have e:(ju a b).data.toList=a.data.toList++46::b.data.toList:=by unfold ju M5;simp
 have h1:=DC a.data.toList b.data.toList (He d);unfold Lib.cut;rw[e,Lib.index_one,h1,ax (by omega),eW];congr 1
 .exact my
 .congr 1;have c:a.data.toList++46::b.data.toList=(a.data.toList++[46])++b.data.toList:=by simp
  rw[c,show a.data.toList.length+[(46:UInt8)].length=(a.data.toList++[46]).length by simp];exact jJ
theorem DL (s:Wz)(h:nu s)(w:Wq)(E:gu w):Calls prog 196 #[.string s] w (Bq w):=by obtain⟨a,b,d,f,rfl⟩:=h;have x:=eN d;have y:=eN f;have v:=mI ⟨a,b,d,f,rfl⟩;obtain⟨m,i⟩:=E.maxlen;have c:=strings_Cut (ju a b) ⟨#[46]⟩ m w (by omega) i;rw[show(⟨#[46]⟩:Wz).data.toList=[46]from rfl,Ka d]at c;have p:(⟨a.data.toList.toArray⟩:Wz)=a:=Lib.mk_data a;have q:(⟨b.data.toList.toArray⟩:Wz)=b:=Lib.mk_data b;simp only[p,q]at c;replace c:=Hi c;have j:=Hi λw'=>oZ a w' (by omega);have l:=Hi λw'=>oZ b w' (by omega);have r:Hid ((cZ (bs a)&&!lD a)=true):=Hi d;have t:Hid ((cZ (bs b)&&!lD b)=true):=Hi f;clear i;go_enter func196,ntmps196;go_wp2_with(first|(go_at_call 262;refine c.o.mono ?_;rintro e o ⟨rfl,n,rfl⟩;have u:=Hi (ar (aB w.heap.size w) n);clear c)|(go_at_call 138;refine(j.o _).mono ?_;rintro e o ⟨rfl,rfl⟩;rw[r.o];clear j)|(go_at_call 138;refine(l.o _).mono ?_;rintro e o ⟨rfl,rfl⟩;rw[t.o];clear l));go_ret;exact⟨rfl,u.o⟩
theorem E8 (s:Wz)(h:nu s)(w:Wq)(E:gu w):Calls prog 119 #[.string s] w (kZ s w):=by have c:=Hi (DL s h w E);go_enter func119,ntmps119;go_wp2_with(go_at_call 196;refine c.o.mono ?_;rintro e b ⟨rfl,a⟩;have jk:=Hi a;clear a c);go_ret;exact⟨rfl,jk.o⟩
abbrev lk (c:bE)(a vb vl vs:Value):Obj:=.cells (eO c a vb vl vs) 27 (0,0)
theorem fU {c:bE}{a vb vl vs:Value}(h:w.heap[g]?=some (lk c a vb vl vs)):w.cell? ⟨g,0,none⟩=some (.string c.title)/\w.cell? ⟨g,1,none⟩=some a/\w.cell? ⟨g,2,none⟩=some (.string c.routing)/\w.cell? ⟨g,3,none⟩=some (.bool c.slim)/\w.cell? ⟨g,4,none⟩=some vb/\w.cell? ⟨g,5,none⟩=some vl/\w.cell? ⟨g,6,none⟩=some vs:=au h
theorem tx {α:Type}{p:α->Bool}{l:List α}{x:α}(h:l[k]?=some x):(l.drop k).all p=(p x&&(l.drop (k+1)).all p):=by rw[fP h];rfl
theorem Oq (c:bE)(Y vb vl vs:Value)(B:Nat)(w:Wq)(h:fE w B c Y vb vl vs)(hB:B<=w.heap.size):Calls prog 32 #[.agg (eO c Y vb vl vs)] w (ko (oW c) w):=by
 obtain⟨Q,vz,rfl,hcf,hcapf⟩:=aX.form h.f;obtain⟨r,K⟩:=Jj (w.alloc (lk c (.slice Q c.fields.length vz) vb vl vs));have jy:=Hi (show JJ w r by exact Jk K);have U:r.heap[w.heap.size]?=some (lk c (.slice Q c.fields.length vz) vb vl vs):=Jy K;have X:w.heap.size<r.heap.size:=by rw[<-K];simp
 obtain⟨x0,x1,x2,x3,_,_,_⟩:=fU U;have hF:=Hi λW (q:JJ w W)=>eX.below h.f q hB;have z:=Hi λW (q:JJ r W)=>fU ((q.block _ X).t U);have u:=Hi λW (q:JJ r W)=>jy.o.t (q.mono (bD X));have S:=Hi (wj c.fields _ w.heap.size r (hF.o _ jy.o) jy.o.size);have m:Hid (oW c=(decide (c.title.size<=256)&&nz c.fields&&(c.fields.all λf=>!lD f.name)&&!((!decide (c.routing=ByteArray.empty)&&decide (fN c.fields c.routing<0))||(decide (c.routing=ByteArray.empty)&&c.slim)))):=Hi rfl;generalize oW c=R at*;have ht:=h.ht;unfold Sm at ht;by_cases h1:256<c.title.size
 .have d:=Hi (show R=false by rw[m.o,aM (by omega)];rfl);have b1:((c.title.size:Int)>256):=by omega
  clear m h;go_enter func32,ntmps32;go_wp2_with fail;go_ret2;exact gB d.o (by decide) jy.o
 have b1:¬((c.title.size:Int)>256):=by omega
 replace m:Hid (R=(nz c.fields&&(c.fields.all λf=>!lD f.name)&&!((!decide (c.routing=ByteArray.empty)&&decide (fN c.fields c.routing<0))||(decide (c.routing=ByteArray.empty)&&c.slim)))):=Hi (by rw[m.o,aV (by omega),az]);cases hof:nz c.fields
 .have d:=Hi (show R=false by rw[m.o,hof];rfl);clear m h;go_enter func32,ntmps32;go_upto_region 4 with(go_at_call 94;refine S.o.mono ?_;rintro e w2 ⟨⟨k,a,rfl,p⟩,jk⟩;rw[hof,ap (by simp)]at p;obtain⟨p,kh⟩:=p;obtain⟨M,N,O,D,_,_,_⟩:=z.o _ jk;have q7:(k !=0)=true:=(by simp[p]);have y:=Hi (u.o _ jk);have H:=hF.o _ (u.o _ jk);replace p:=Hi p;clear jk);by_cases hz:k=2\/c.fields.length=0
  .have P:(k==2)=true/\k=2\/(k==2)=false/\¬k=2/\(c.fields.length:Int)=0:=by
    rcases hz with h|h
    .exact Or.inl ⟨by simp[h],h⟩
    .by_cases h2:k=2
     .exact Or.inl ⟨by simp[h2],h2⟩
     .exact Or.inr ⟨by simp[h2],h2,by omega⟩
   clear kh H;rcases P with⟨P,yd⟩|⟨P,yd,hz2⟩
   .go_wp2_with fail;go_ret2;exact gB d.o (by decide) y.o
   .go_wp2_with fail;go_ret2;exact gB d.o (by decide) y.o
  .have h2:(k==2)=false:=by simp;omega
   have h3:¬(c.fields.length:Int)=0:=by omega
   obtain⟨j,rfl⟩:∃j:Nat,a=j:=⟨a.toNat,by omega⟩;have hj:j<c.fields.length:=by omega
   obtain⟨b,off,rfl⟩:=aX.addr H (by omega);obtain⟨_,cc,x,V,⟨I,_⟩,v⟩:=aX.el H hj;subst I;have e0:w2.cell? ⟨b,off+j*2,none⟩=some (.string x.name):=v 0 _ rfl;have v7:=Hi λn=>ar y.o n;clear v H kh hz;go_upto_region 7 with fail;go_quiet(fail);go_wp2_with fail;go_ret2;exact gB d.o (by decide) (v7.o _)
 replace m:Hid (R=((c.fields.all λf=>!lD f.name)&&!((!decide (c.routing=ByteArray.empty)&&decide (fN c.fields c.routing<0))||(decide (c.routing=ByteArray.empty)&&c.slim)))):=Hi (by rw[m.o,hof,az]);have Z:Hid (R=(((c.fields.drop 0).all λf=>!lD f.name)&&!((!decide (c.routing=ByteArray.empty)&&decide (fN c.fields c.routing<0))||(decide (c.routing=ByteArray.empty)&&c.slim)))):=Hi m.o;clear m;have hr:=h.hr;clear h;go_enter func32,ntmps32;go_wp2_with(go_at_call 94;refine S.o.mono ?_;rintro e w2 ⟨⟨k,a,rfl,p⟩,jk⟩;rw[hof,ax rfl]at p;subst p;obtain⟨M,N,O,D,_,_,_⟩:=z.o _ jk;have y:=Hi jk;clear jk);go_loopw [37] (λi wr=>∃k:Nat,k<=c.fields.length/\i=I6 k/\Hid (R=(((c.fields.drop k).all λf=>!lD f.name)&&!((!decide (c.routing=ByteArray.empty)&&decide (fN c.fields c.routing<0))||(decide (c.routing=ByteArray.empty)&&c.slim))))/\Hid (JJ r wr))(λi _=>c.fields.length-(intOf i).toNat);case atStart=>exact⟨0,aK _,rfl,Z,y⟩
 case round=>
  obtain⟨k,p,rfl,E,jf⟩:=hrel;obtain⟨C,rfl⟩:=Jv wr;clear Z y M N O D;obtain⟨M,N,O,D,_,_,_⟩:=z.o _ jf.o;have A:=hF.o _ (u.o _ jf.o);by_cases jt:k<c.fields.length
  .obtain⟨b,off,rfl⟩:=aX.addr A (by omega);obtain⟨_,cc,x,V,⟨I,_⟩,v⟩:=aX.el A jt;subst I;have e0:C.cell? ⟨b,off+k*2,none⟩=some (.string x.name):=v 0 _ rfl;have e1:C.cell? ⟨b,off+k*2+1,none⟩=some (I6 x.bits):=v 1 _ rfl;have l:=Hi (show R=((!lD x.name&&((c.fields.drop (k+1)).all λf=>!lD f.name))&&_)from E.o.t (by rw[tx V]));have F:=Hi λW=>sx x.name W;have jm:=Hi λo=>jf.o.alloc jf.o.size o;clear E v A;cases hres:lD x.name
   .have d:=Hi (show R=(((c.fields.drop (k+1)).all λf=>!lD f.name)&&_)from l.o.t (by rw[hres];rfl));rw[hres]at F;clear l hres;go_wp2_with(go_at_call 95;refine(F.o _).mono ?_;rintro e L ⟨rfl,rfl⟩);go_roundw;case rel=>exact⟨k+1,by omega,by go_num,d,jm.o _⟩
    case measure=>simp[intOf];omega
   .have d:=Hi (show R=false from l.o.t (by rw[hres];rfl));rw[hres]at F;have t:=Hi λo n=>u.o _ (ar (jm.o o) n);clear l hres;go_upto_region 12 with(go_at_call 95;refine(F.o _).mono ?_;rintro e L ⟨rfl,rfl⟩);go_quiet(fail);go_wp2_with fail;go_ret2;exact gB d.o (by decide) (t.o _ _)
  .have l:=Hi (show R=!((!decide (c.routing=ByteArray.empty)&&decide (fN c.fields c.routing<0))||(decide (c.routing=ByteArray.empty)&&c.slim))from E.o.t (by rw[fB jt];rfl));have T:=Hi (Jl c.fields c.routing _ w.heap.size C A (u.o _ jf.o).size);have G:=Hi (u.o _ jf.o);clear E A;generalize fN c.fields c.routing=fd at*;by_cases he:c.routing=ByteArray.empty
   .have k8:c.routing.toList.isEmpty=true:=qP _ (by rw[he];rfl);cases hsl:c.slim
    .have d:=Hi (show R=true by rw[l.o,aV he,hsl];rfl);rw[hsl]at D;clear l he;go_wp2_with fail;go_ret2;exact BU d.o G.o
    .have d:=Hi (show R=false by rw[l.o,aV he,hsl];simp);rw[hsl]at D;have t:=Hi λn=>ar G.o n;clear l he;go_upto_region 15 with fail;go_quiet(fail);go_wp2_with fail;go_ret2;exact gB d.o (by decide) (t.o _)
   .have k8:c.routing.toList.isEmpty=false:=jw _ λh0=>he (by apply sN;exact oF h0);by_cases h0:fd<0
    .have d:=Hi (show R=false by rw[l.o,aM he,aV h0];rfl);have t:=Hi λW (q:JJ C W) n=>ar (JK G.o q) n;clear l he;go_upto_region 15 with(go_at_call 96;refine T.o.mono ?_;rintro e L ⟨rfl,s⟩;obtain⟨z0,z1,z2,z3,_,_,_⟩:=z.o _ (JK jf.o s);have J:=Hi (t.o _ s);clear s);go_quiet(fail);go_wp2_with fail;go_ret2;exact gB d.o (by decide) (J.o _)
    .have d:=Hi (show R=true by rw[l.o,aM he,aM h0];rfl);have t:=Hi λW (q:JJ C W)=>(JK G.o q);clear l he;go_wp2_with(go_at_call 96;refine T.o.mono ?_;rintro e L ⟨rfl,s⟩;obtain⟨z0,z1,z2,z3,_,_,_⟩:=z.o _ (JK jf.o s);have J:=Hi (t.o _ s);clear s);go_ret2;exact BU d.o J.o
theorem LV {p S a x:Int}(h:p=wrap64 S)(hs:a=S+x):wrap64 (p+x)=wrap64 a:=by subst h hs;simp only[wrap64];omega
theorem qm {g:ay->Int}{l:List ay}{b:ay}(h:l[k]?=some b):ia g (l.take (k+1))=ia g (l.take k)+g b:=by rw[ek h,Gk]
theorem Fa {g:ay->Int}{M:Int}:∀{l:List ay},(∀b∈l,0<=g b/\g b<=M)->0<=ia g l/\ia g l<=M*l.length|[],_=>by simp[ia]|b::r,h=>by have h1:=h b (by simp);have h2:=Fa (l:=r) λx a=>h x (by simp[a]);unfold ia;rw[aD,Int.natCast_add,Int.mul_add];simp only[Int.natCast_one,Int.mul_one];omega
def K5 (b:ay):Prop:=b.ins.length<=140737488355328/\b.outs.length<=140737488355328/\b.guards.length<=140737488355328/\b.rules.length<=140737488355328/\b.owns.length<=140737488355328/\b.routes.length<=140737488355328
theorem fD {B:Nat}{c:List Value}{x:ay}(h:jB w B c x):∃b l d m a j e n i p f o,c=[.string x.name,.slice b x.ins.length l,.slice d x.outs.length m,.slice a x.guards.length j,.slice e x.rules.length n,.slice i x.owns.length p,.slice f x.routes.length o]/\K5 x/\Sm x.name/\dk w B (.slice b x.ins.length l) x.ins/\dk w B (.slice d x.outs.length m) x.outs/\aX 3 iu w B (.slice a x.guards.length j) x.guards/\aX 5 gn w B (.slice e x.rules.length n) x.rules/\oa w B (.slice i x.owns.length p) x.owns/\oa w B (.slice f x.routes.length o) x.routes:=by obtain⟨I,J,H,K,G,vb,h1,h2,h3,q,r,s,t,u⟩:=h;obtain⟨b,l,rfl,z,A⟩:=aX.form h3;obtain⟨d,m,rfl,C,D⟩:=aX.form q;obtain⟨a,j,rfl,v,y⟩:=aX.form r;obtain⟨e,n,rfl,E,F⟩:=aX.form s;obtain⟨i,p,rfl,L,M⟩:=aX.form t;obtain⟨f,o,rfl,u1,u2⟩:=aX.form u;exact⟨b,l,d,m,a,j,e,n,i,p,f,o,h1,⟨by omega,by omega,by omega,by omega,by omega,by omega⟩,h2,h3,q,r,s,t,u⟩
theorem DO {B:Nat}{v:Value}{l:List ay}(h:aX 7 jB w B v l):∀b∈l,K5 b:=by intro b e;obtain⟨k,d,rfl⟩:=List.getElem_of_mem e;obtain⟨A,cap,rfl,_,_⟩:=aX.form h;obtain⟨i,off,rfl⟩:=aX.addr h (by omega);obtain⟨_,c,x,a,f,_⟩:=aX.el h d;obtain⟨_,_,_,_,_,_,_,_,_,_,_,_,_,hs,_⟩:=fD f;rw[aF d]at a;injection a with a;rw[a];exact hs
def AC (c:bE):List (Int×Int):=[((c.boxes.length:Int),16),(ia ly c.boxes,48),(ia qI c.boxes,64),(ia qH c.boxes,64),(ia nI c.boxes,64),((c.links.length:Int),48),((c.slices.length:Int),8)]
theorem Hs (c:bE):kP c=(AC c).all λx=>decide (x.1<=x.2):=by unfold kP AC;rw[eD];simp only[bC,eC,List.all_nil,aS,and_true];omega
def Nu (a b c d e f h:Int)(i j l m n o p:Wz):Array Value:=#[I6 a,I6 16,.string i,I6 b,I6 48,.string j,I6 c,I6 64,.string l,I6 d,I6 64,.string m,I6 e,I6 64,.string n,I6 f,I6 48,.string o,I6 h,I6 8,.string p]
theorem AB {b c d e f i j:Int}{l o p q r u v:Wz}{t:TypeId}{a:Nat×Nat}(h:w.heap[g]?=some (.cells (Nu b c d e f i j l o p q r u v) t a))(k:Nat)(x:k<7):∃n m s,[(b,(16:Int)),(c,48),(d,64),(e,64),(f,64),(i,48),(j,8)][k]?=some (n,m)/\w.cell? ⟨g,k*3,none⟩=some (I6 n)/\w.cell? ⟨g,k*3+1,none⟩=some (I6 m)/\w.cell? ⟨g,k*3+2,none⟩=some (.string s):=by
 rcases(show k=0\/k=1\/k=2\/k=3\/k=4\/k=5\/k=6 by omega)with rfl|rfl|rfl|rfl|rfl|rfl|rfl
 .exact⟨_,_,l,rfl,by rw[aA w g _ _ t a h];rfl,by rw[aA w g _ _ t a h];rfl,by rw[aA w g _ _ t a h];rfl⟩
 .exact⟨_,_,o,rfl,by rw[aA w g _ _ t a h];rfl,by rw[aA w g _ _ t a h];rfl,by rw[aA w g _ _ t a h];rfl⟩
 .exact⟨_,_,p,rfl,by rw[aA w g _ _ t a h];rfl,by rw[aA w g _ _ t a h];rfl,by rw[aA w g _ _ t a h];rfl⟩
 .exact⟨_,_,q,rfl,by rw[aA w g _ _ t a h];rfl,by rw[aA w g _ _ t a h];rfl,by rw[aA w g _ _ t a h];rfl⟩
 .exact⟨_,_,r,rfl,by rw[aA w g _ _ t a h];rfl,by rw[aA w g _ _ t a h];rfl,by rw[aA w g _ _ t a h];rfl⟩
 .exact⟨_,_,u,rfl,by rw[aA w g _ _ t a h];rfl,by rw[aA w g _ _ t a h];rfl,by rw[aA w g _ _ t a h];rfl⟩
 .exact⟨_,_,v,rfl,by rw[aA w g _ _ t a h];rfl,by rw[aA w g _ _ t a h];rfl,by rw[aA w g _ _ t a h];rfl⟩
theorem Jm (c:bE)(S vb vl vs:Value)(B:Nat)(w:Wq)(h:fE w B c S vb vl vs)(hB:B<=w.heap.size):Calls prog 33 #[.agg (eO c S vb vl vs)] w (ko (kP c) w):=by
 obtain⟨Ab,v3,rfl,hcb,hcapb⟩:=aX.form h.b;obtain⟨Al,vm,rfl,k7,hcapl⟩:=aX.form h.l;obtain⟨As,v4,rfl,hcs,hcaps⟩:=aX.form h.s;obtain⟨d,Z⟩:=Jj (w.alloc (lk c S (.slice Ab c.boxes.length v3) (.slice Al c.links.length vm) (.slice As c.slices.length v4)));have jy:=Hi (show JJ w d by exact Jk Z);have X:d.heap[w.heap.size]?=some (lk c S (.slice Ab c.boxes.length v3) (.slice Al c.links.length vm) (.slice As c.slices.length v4)):=Jy Z;have j0:w.heap.size<d.heap.size:=by rw[<-Z];simp
 obtain⟨_,_,_,_,x4,x5,x6⟩:=fU X;have qi:=Hi λW (e:JJ d W)=>fU ((e.block _ j0).t X);have H:=Hi λW (e:JJ d W)=>jy.o.t (e.mono (bD j0));have k4:=Hi λW (e:JJ w W)=>h.b.keep (w':=W) hB (av e hB) λ_ _ h=>h.keep hB (av e hB);have k6:=Hi (DO h.b);have r:=Hi (Hs c);have z8:=Hi (aB d.heap.size d);generalize kP c=R at*;clear h X;go_enter func33,ntmps33;go_wp2_with fail;go_loopw [4,5,6,7,15] (λa1 a2 a3 a4 i wr=>∃(k:Nat)(u v y z:Int),k<=c.boxes.length/\i=I6 k/\a1=I6 u/\a2=I6 v/\a3=I6 y/\a4=I6 z/\Hid (u=wrap64 (ia ly (c.boxes.take k))/\v=wrap64 (ia qI (c.boxes.take k))/\y=wrap64 (ia qH (c.boxes.take k))/\z=wrap64 (ia nI (c.boxes.take k)))/\Hid (JJ d wr)) (λ_ _ _ _ i _=>c.boxes.length-(intOf i).toNat);case atStart=>exact⟨0,0,0,0,0,aK _,rfl,rfl,rfl,rfl,rfl,Hi ⟨by simp[ia,wrap64],by simp[ia,wrap64],by simp[ia,wrap64],by simp[ia,wrap64]⟩,z8⟩
 case round=>
  obtain⟨k,u,v,y,z,hk,rfl,rfl,rfl,rfl,rfl,G,jf⟩:=hrel;obtain⟨C,rfl⟩:=Jv wr;clear z8 x4 x5 x6;obtain⟨_,_,_,_,x4,x5,x6⟩:=qi.o _ jf.o;by_cases J:k<c.boxes.length
  .have zl:=k4.o _ (H.o _ jf.o);obtain⟨b,off,rfl⟩:=aX.addr zl (by omega);obtain⟨_,cc,x,hx,hc,f⟩:=aX.el zl J;obtain⟨Ai,ci,Ao,co,Ag,cg,Ar,cr,Aw,cw,Au,cu,rfl,⟨K,L,N,O,P,Q⟩,_,_⟩:=fD hc;have e0:C.cell? ⟨b,off+k*7,none⟩=_:=f 0 _ rfl;have e1:=f 1 _ rfl;have e2:=f 2 _ rfl;have e3:=f 3 _ rfl;have e4:=f 4 _ rfl;have e5:=f 5 _ rfl;have e6:=f 6 _ rfl;have jm:=Hi λo=>jf.o.alloc jf.o.size o;have U:=Hi hx;clear f zl hc hx r;go_wp2_with fail;go_roundw;case rel=>refine⟨k+1,_,_,_,_,by omega,by go_num,rfl,rfl,rfl,rfl,Hi ?_,jm.o _⟩;obtain⟨h1,h2,h3,h4⟩:=G.o;exact⟨LV h1 (qm U.o),LV h2 (qm U.o),LV h3 (qm U.o),LV h4 (qm U.o)⟩
   case measure=>simp[intOf];omega
  .have xi:c.boxes.take k=c.boxes:=ah (by omega);rw[xi]at G;go_upto_region 10 with fail;go_cut[68,69,70] (λa l i wx=>∃K L N O P Q s7,a=.slice (some ⟨C.heap.size,0,none⟩) 7 7/\l=I6 7/\i=I6 0/\Hid (wx.heap[C.heap.size]?=some (.cells (Nu c.boxes.length u v y z c.links.length c.slices.length K L N O P Q s7) 152 (0,0)))/\Hid (JJ d wx));case first=>have jm:=Hi λo=>jf.o.alloc jf.o.size o;go_wp2_with fail;go_meet;exact⟨_,_,_,_,_,_,_,rfl,rfl,rfl,Hi (aG C _),jm.o _⟩
   case rest=>
   obtain⟨K,L,N,O,P,Q,s7,rfl,rfl,rfl,V,A⟩:=hcut;obtain⟨T,rfl⟩:=Jv wc;go_wp2_with fail;have qr:¬c.boxes.length<=16->R=false:=λh=>by rw[r.o];unfold AC;rw[eC,aM (by omega)];rfl
   have Y:c.boxes.length<=16->u=ia ly c.boxes/\v=ia qI c.boxes/\y=ia qH c.boxes/\z=ia nI c.boxes:=λh=>by
    have F:∀g:ay->Int,(∀b,K5 b->0<=g b/\g b<=281474976710656)->wrap64 (ia g c.boxes)=ia g c.boxes:=λg hg=>by have:=Fa (g:=g) (M:=281474976710656) (l:=c.boxes) λb e=>hg b (k6.o b e);refine LF ?_;have h2:(281474976710656:Int)*c.boxes.length<=281474976710656*16:=Int.mul_le_mul_of_nonneg_left (by omega) (by omega);omega
    obtain⟨e1,e2,e3,e4⟩:=G.o;refine⟨e1.t (F _ ?_),e2.t (F _ ?_),e3.t (F _ ?_),e4.t (F _ ?_)⟩;all_goals(rintro b ⟨K,L,N,O,P,Q⟩;simp only[ly,qI,qH,nI];omega)
   by_cases hb16:c.boxes.length<=16;case neg=>
    have j:=qr hb16;have t:=Hi λo=>H.o _ (A.o.alloc A.o.size o);obtain⟨n,m,s,q,k0,k1,k2⟩:=AB V.o 0 (by omega);injection q with q;injection q with hn hm;have J:n>m:=by omega
    clear qr Y r;refine bF 1 ?_;rw[an];go_upto_region 14 with fail;go_quiet(fail);go_wp2_with fail;go_ret2;exact gB j (by decide) (ar (t.o _) _)
   obtain⟨rfl,rfl,rfl,rfl⟩:=Y hb16;have vv:Hid (R=((AC c).drop 0).all λx=>decide (x.1<=x.2)):=Hi r.o;have x9:C.heap.size<T.heap.size:=(Array.getElem?_eq_some_iff.1 V.o).1;have v7:=Hi (aB T.heap.size T);clear qr Y r G;go_loopw [70] (λi wr=>∃k:Nat,k<=7/\i=I6 k/\Hid (R=((AC c).drop k).all λx=>decide (x.1<=x.2))/\Hid (JJ T wr))(λi _=>7-(intOf i).toNat);case atStart=>exact⟨0,aK _,rfl,vv,v7⟩
   case round=>
    obtain⟨k,hk,rfl,D,I⟩:=hrel;clear vv v7;by_cases J:k<7
    .obtain⟨n,m,s,q,k0,k1,k2⟩:=AB ((I.o.block _ x9).t V.o) k J;have E:=Hi (D.o.t (tx (p:=λx:Int×Int=>decide (x.1<=x.2)) q));have jm:=Hi λo=>I.o.alloc I.o.size o;clear D q;by_cases hle:n<=m
     .have j:=Hi (show R=((AC c).drop (k+1)).all λx=>decide (x.1<=x.2)from E.o.t (by simp only[aV hle,az]));have zx:¬(n>m):=by omega
      clear E hle;go_wp2_with fail;go_roundw;case rel=>exact⟨k+1,by omega,by go_num,j,jm.o _⟩
      case measure=>simp[intOf];omega
     .have j:=Hi (show R=false from E.o.t (by simp only[aM hle,yy]));have zx:n>m:=by omega
      have t:=Hi λo=>H.o _ (A.o.t ((jm.o o).mono A.o.size));clear E hle;go_upto_region 14 with fail;go_quiet(fail);go_wp2_with fail;go_ret2;exact gB j.o (by decide) (ar (t.o _) _)
    .have j:=Hi (show R=true by rw[D.o,show k=7 by omega];rfl);have t:=Hi (H.o _ (JK A.o I.o));clear D;go_wp2_with fail;go_ret2;exact BU j.o t.o
end Go.Proofs.YtgfgoaeaicefcaaGreatDoor
