/- Part of DeltaBack. -/
import Derived.Test.YtgfgoaeaicefcaaGreatDoorQD1
set_option maxHeartbeats 16000000
set_option maxRecDepth 100000
set_option linter.all false
namespace Go.Proofs.YtgfgoaeaicefcaaGreatDoor
open Go.RowKit Tryz
variable {w w':Wq}{vn:Value}{B:Nat}
attribute [local go_sem ↓] Go.wp_at_zero Go.wp_at_succ
theorem HB:(prog.info? 46).map (λi=>(i.zero,i.size,i.bytes))=some (some (.agg #[I6 0,.string ByteArray.empty,I6 0,I6 0,I6 0,I6 0,I6 0,.string ByteArray.empty]),8,80):=by kernel_rfl
abbrev JX (x:de):List Value:=I6 x.kind::fM x.test
def rg (l:List de):List Value:=l.flatMap JX
theorem Er (l:List de)(x:de):rg (l++[x])=rg l++JX x:=by simp[rg]
structure Xs where
 i:Nat
 o:List de
 made:Nat
 opn:Nat
structure Xg where
 M:Nat
 g:Nat
 cap:Nat
 l:List Tk
def GU (r:Xg)(d:Xs)(vn:Value):Array Value:=#[zA r.g r.cap r.l,I6 d.i,vn,I6 d.made,I6 d.opn,I6 0]
structure fG (w:Wq)(r:Xg)(d:Xs)(vn:Value):Prop where
 box:w.heap[r.M]?=some (.cells (GU r d vn) 349 (0,0))gM:r.g<r.M
 toks:qV w r.g r.l
 on:w.ownsRow (r.M+1) 46 8 vn d.o.length (rg d.o)env:nP r.M w
 len:r.l.length<=32769
 txt:∀t∈r.l,t.text.size<=16384
 om:d.o.length<=d.made
 m64:d.made<=64
 o32:d.opn<=32
abbrev Xg.p (r:Xg):Value:=.pointer (some ⟨r.M,0,none⟩)
section
variable {w:Wq} {r:Xg} {d:Xs} {vn:Value}
theorem fG.lt (h:fG w r d vn):r.M<w.heap.size:=(Array.getElem?_eq_some_iff.1 h.box).1
theorem fG.free (h:fG w r d vn)(i:Nat):w.frozen? ⟨r.M,i,none⟩=false:=af h.box i
theorem fG.c (h:fG w r d vn)(i:Nat):w.cell? ⟨r.M,i,none⟩=(GU r d vn)[i]?:=aA w r.M i _ _ (0,0) h.box
theorem fG.c0 (h:fG w r d vn):w.cell? ⟨r.M,0,none⟩=some (zA r.g r.cap r.l):=h.c 0
theorem fG.c1 (h:fG w r d vn):w.cell? ⟨r.M,1,none⟩=some (I6 d.i):=h.c 1
theorem fG.c2 (h:fG w r d vn):w.cell? ⟨r.M,2,none⟩=some vn:=h.c 2
theorem fG.c3 (h:fG w r d vn):w.cell? ⟨r.M,3,none⟩=some (I6 d.made):=h.c 3
theorem fG.c4 (h:fG w r d vn):w.cell? ⟨r.M,4,none⟩=some (I6 d.opn):=h.c 4
theorem fG.ne (h:fG w r d vn):vn.ownBlock≠some r.M:=λe=>by have:=(h.on.lt r.M e).1;omega
theorem fG.up (h:fG w r d vn)(a:JJ w w'):fG w' r d vn:={h with box:=(a.block r.M h.lt).t h.box,toks:=h.toks.below a h.toks.1,on:=aU h.on a,env:=h.env.next (a.mono (bD h.lt))}
theorem fG.qt (h:fG w r d vn)(a:Qt w w'):fG w' r d vn:=h.up (a.below _)
theorem fG.set (h:fG w r d vn)(j:Nat)(u:Value)(a:Xs)(e:(GU r d vn).setIfInBounds j u=GU r a vn)(c:a.o=d.o)(b:d.made<=a.made/\a.made<=64/\a.opn<=32):fG (w.setCell ⟨r.M,j,none⟩ u) r a vn where
 box:=by rw[<-e];exact am w _ j _ _ u h.box
 gM:=h.gM;toks:=h.toks.below (oE (aB r.M w) (al r.M) _) h.gM;on:=by rw[c];exact aR h.on (bQ r.M) _
 env:=h.env.next (oE (aB r.M w) (al r.M) _);len:=h.len;txt:=h.txt;om:=by rw[c];exact aI h.om b.1
 m64:=b.2.1;o32:=b.2.2
theorem fG.setAt (h:fG w r d vn)(i:Nat):fG (w.setCell ⟨r.M,1,none⟩ (I6 i)) r {d with i:=i} vn:=h.set 1 _ _ rfl rfl ⟨al _,h.m64,h.o32⟩
theorem fG.setMade (h:fG w r d vn)(a:d.made<64):fG (w.setCell ⟨r.M,3,none⟩ (I6 ((d.made:Int)+1))) r {d with made:=d.made+1} vn:=h.set 3 _ _ rfl rfl ⟨fe _,a,h.o32⟩
theorem fG.setOpn (h:fG w r d vn)(n:Nat)(a:n<=32):fG (w.setCell ⟨r.M,4,none⟩ (I6 n)) r {d with opn:=n} vn:=h.set 4 _ _ rfl rfl ⟨al _,h.m64,a⟩
theorem fG.setOut {a:Wq}{c:Value}{xs:List de}(P:fG w r d vn)(b:w.grownBy a vn.ownBlock)(l:xs.length<=d.made)(h:a.ownsRow (r.M+1) 46 8 c xs.length (rg xs)):fG (a.setCell ⟨r.M,2,none⟩ c) r {d with o:=xs} c where
 box:=am a _ 2 _ _ c ((b.block r.M P.lt (λe=>P.ne e.symm)).t P.box);gM:=P.gM;toks:=by refine qV.below (L:=r.M) ⟨bZ P.toks.1 b.size,λk t g j u f=>?_⟩ (oE (aB r.M a) (al r.M) _) P.gM;exact b.cell (P.toks.2 k t g j u f) (λe=>by have:=(P.on.lt r.g e.symm).1;have:=P.gM;omega)
 on:=aR h (bQ r.M) _;env:=P.env.next (((aB r.M w).grown b (bD P.lt) λi hi=>by have:=(P.on.lt i hi).1;omega).setCell (al r.M) _);len:=P.len;txt:=P.txt;om:=l;m64:=P.m64;o32:=P.o32
theorem fG.side (h:fG w r d vn)(hB:r.M<B){a:Array Value}(b:w.heap[B]?=some (.cells a 44 (0,0)))(i:Nat)(u:Value):fG (w.setCell ⟨B,i,none⟩ u) r d vn:={h with
 box:=(aT w _ u r.M (show r.M≠B by omega)).t h.box
 toks:=h.toks.below (oE (aB r.M w) (bD hB) _) h.gM
 on:=bW h.on (λe=>by obtain⟨c,f,h2⟩:=Lib.ownsRow_kind h.on B e;rw[b]at h2;simp at h2) _
 env:=h.env.next (oE (aB r.M w) (bD hB) _)}
end
def t9 (w:Wq)(r:Xg)(d:Xs)(e:Ending)(w':Wq):Prop:=e=.returned (.bool true)/\Below r.M w w'/\∃vn,fG w' r d vn
theorem jR {r:Xg}{d:Xs}(P:fG w r d vn){k:Int}{x:Wz}{R:List Pc}(h:dD r.l d.i=(k,x)::R)(s:Wz):Calls prog 349 #[r.p,.string s] w λe w'=>e=.returned (.bool (decide (k=7/\x=s)))/\Qt w w':=by
 obtain⟨t,ht,rfl,rfl,_,hi⟩:=dI h;obtain⟨M,g,cap,l⟩:=r;obtain⟨i,out,made,opn⟩:=d;replace hi:i<l.length:=hi;have j:=P.c0;have m:=P.c1;have c:w.cell? ⟨g,i*4,none⟩=some (I6 t.kind):=P.toks.2 i t ht 0 _ rfl;have f:w.cell? ⟨g,i*4+1,none⟩=some (.string t.text):=P.toks.2 i t ht 1 _ rfl;have b1:decide (i<l.length)=true:=aV hi;have b:(i:Int)<(l.length:Int):=by omega
 have b0:(0:Int)<=(i:Int):=by omega
 clear P ht h;by_cases hk:t.kind=7
 .have a:(t.kind==7)=true:=by rw[hk];rfl
  have H:=Hi (show decide (t.kind=7/\t.text=s)=decide (t.text=s)by rw[eD];simp[hk]);clear hk hi;go_enter func349,ntmps349;go_wp2_with fail;go_quiet(fail);go_wp2_with fail;go_ret;exact⟨by rw[H.o,<-lK];rfl,Qt.self _ _⟩
 .have a:(t.kind==7)=false:=by rw[dU];exact hk
  have H:=Hi (show decide (t.kind=7/\t.text=s)=false by rw[bX];exact λh=>hk h.1);clear hk hi;go_enter func349,ntmps349;go_wp2_with fail;go_quiet(fail);go_wp2_with fail;go_ret;exact⟨by rw[H.o];rfl,Qt.self _ _⟩
theorem AX {r:Xg}{d:Xs}(P:fG w r d vn)(a:d.made<64):Calls prog 350 #[r.p] w λe w'=>e=.returned (.bool true)/\Below r.M w w'/\fG w' r {d with made:=d.made+1} vn:=by
 have h:=P.c3;have g:=P.free 3;have c:¬(d.made:Int)>=64:=by omega
 have f:IntKind.i64.wrap ((d.made:Int)+1)=(d.made:Int)+1:=bu _ (by omega);have b:=Hi (P.setMade a);clear P a;go_enter func350,ntmps350;go_wp2_with fail;go_ret;exact⟨rfl,(aB r.M w).setCell (al r.M) _,b.o⟩
theorem zS {r:Xg}{d:Xs}(P:fG w r d vn)(k:Int)(f:Wz)(o m j h n:Int)(p:Wz)(v:d.o.length<d.made):Calls prog 351 #[r.p,I6 k,.agg #[.string f,I6 o,I6 m,I6 j,I6 h,I6 n,.string p]] w (t9 w r {d with o:=d.o++[⟨k,f,o,m,j,h,n,p⟩]}):=by
 obtain⟨M,g,cap,l⟩:=r;obtain⟨i,out,made,opn⟩:=d;obtain⟨I,D,x,A,vb⟩:=mc HB;replace D:=Hi D;replace x:=Hi x;replace A:=Hi A;replace vb:=Hi vb;have F:=P.m64;obtain⟨wc,C⟩:=Jj (w.alloc (.cells #[.string f,I6 o,I6 m,I6 j,I6 h,I6 n,.string p] 44 (0,0)));obtain⟨W,s⟩:=Jj (wc.alloc (.cells #[I6 k,.string f,I6 o,I6 m,I6 j,I6 h,I6 n,.string p] 46 (0,0)));have t:JJ w wc:=by rw[<-C];exact(aB _ w).alloc Jq _
 have c:wc.heap[w.heap.size]?=some (.cells #[.string f,I6 o,I6 m,I6 j,I6 h,I6 n,.string p] 44 (0,0)):=Jy C;have N:=aA wc _ 0 _ _ _ c;have O:=aA wc _ 1 _ _ _ c;have Q:=aA wc _ 2 _ _ _ c;have R:=aA wc _ 3 _ _ _ c;have S:=aA wc _ 4 _ _ _ c;have T:=aA wc _ 5 _ _ _ c;have U:=aA wc _ 6 _ _ _ c;simp only[aQ,aN,aO]at N O Q R S T U;have E:=Hi (P.up t);have G:=P.lt;have L:=Hi ((t.mono (show M<=w.heap.size from bD G)).t (show Below M wc W by rw[<-s];exact(aB M wc).alloc (by have:=t.size;simp only at G;omega) _));have K:=Hi (show W.heap[wc.heap.size]?=some (.cells #[I6 k,.string f,I6 o,I6 m,I6 j,I6 h,I6 n,.string p] 46 (0,0))by exact Jy s);have b:=Hi (E.o.up (show JJ wc W by rw[<-s];exact(aB _ wc).alloc Jq _));have Z:=E.o.c2;have q3:=b.o.c2;have z:wc.heap.size+1=W.heap.size:=by rw[<-s];simp
 replace z:=Hi z;clear P c t;go_enter func351,ntmps351;go_upto_region 1 with fail;clear C;go_region_law (refine step_append_lies _ (by rfl) (.tmp 11) (.tmp 15) _ (by rfl) (M+1) 46 I _ 8 80 underlying47 D.o x.o A.o vb.o rfl (by decide) vn out.length (rg out) (by rfl) (b.o.on.drew) ⟨wc.heap.size,0,none⟩ 1 1 [I6 k,.string f,I6 o,I6 m,I6 j,I6 h,I6 n,.string p] (by rfl) (by rfl) (World.news_of_block K.o) (oc _ rfl) (by decide) (by unfold maxLen;simp only at v F;omega) (by simp only at v F;omega) (by have:=b.o.lt;exact this) (wc.heap.size+1) (by exact z.o.symm) ?_;intro H J w4 jy q X Y;have q34:=q.cell (b.o.qt (Qt.self _ 1)).c2 (λe=>b.o.ne e.symm);have V:=(q.frozen_far (a:=⟨M,2,none⟩) b.o.lt (λe=>b.o.ne e.symm)).t (b.o.free 2);replace jy:=Hi jy;replace q:=Hi q);all_goals(go_wp2_with fail;go_ret;have u:=b.o.qt (Qt.self _ 1);refine⟨rfl,((L.o.t ((Qt.self W 1).below M)).grown q.o (bD u.lt) (λi hi=>by have:=(u.on.lt i hi).1;simp only at this;omega)).setCell (al M) _,.slice (some ⟨H,0,none⟩) (out.length+1) J,?_⟩;exact u.setOut (xs:=out++[⟨k,f,o,m,j,h,n,p⟩]) q.o (by rw[aC];exact v) (by rw[Er,aC];exact jy.o))
theorem Ff (s:Wz){v:Int}(h:mq (bs s) v)(hs:s.size<=16384)(w:Wq)(E:gu w):Calls prog 281 #[.string s] w λe w'=>e=.returned (.tuple #[I6 v,I6 0])/\JJ w w':=by
 have c:¬(s.size:Int)>16384:=by omega
 have b:=Hi (zw s h (by omega) w E);clear h E;go_enter func281,ntmps281;go_wp2_with(go_at_call 209;refine b.o.mono ?_;rintro e w' ⟨rfl,a⟩;replace a:=Hi a);go_ret2;exact⟨rfl,a.o⟩
structure j7 (w0 w:Wq)(r:Xg)(d:Xs)(vn:Value)(B:Nat)(y:eF):Prop where
 P:fG w r d vn
 T:w.heap[B]?=some (.cells (fM y).toArray 44 (0,0))mB:r.M<B
 b0:Below r.M w0 w
section
variable {w0 w:Wq} {r:Xg} {d:Xs} {vn:Value} {B:Nat} {y:eF}
theorem j7.cell (h:j7 w0 w r d vn B y)(i:Nat):w.cell? ⟨B,i,none⟩=(fM y).toArray[i]?:=aA w B i _ _ (0,0) h.T
theorem j7.free (h:j7 w0 w r d vn B y)(i:Nat):w.frozen? ⟨B,i,none⟩=false:=af h.T i
theorem j7.setT (h:j7 w0 w r d vn B y)(i:Nat)(u:Value)(z:eF)(a:(fM y).toArray.setIfInBounds i u=(fM z).toArray):j7 w0 (w.setCell ⟨B,i,none⟩ u) r d vn B z:=⟨h.P.side h.mB h.T i u,by rw[<-a];exact am w _ i _ _ u h.T,h.mB,h.b0.setCell (bD h.mB) u⟩
theorem j7.setAt (h:j7 w0 w r d vn B y)(i:Nat):j7 w0 (w.setCell ⟨r.M,1,none⟩ (I6 i)) r {d with i:=i} vn B y:=⟨h.P.setAt i,(aT w _ _ B (show B≠r.M by have:=h.mB;omega)).t h.T,h.mB,h.b0.setCell (al r.M) _⟩
theorem j7.up (h:j7 w0 w r d vn B y)(a:JJ w w'):j7 w0 w' r d vn B y:=⟨h.P.up a,(a.block B (Array.getElem?_eq_some_iff.1 h.T).1).t h.T,h.mB,h.b0.t (a.mono (bD h.P.lt))⟩
theorem j7.qt (h:j7 w0 w r d vn B y)(a:Qt w w'):j7 w0 w' r d vn B y:=h.up (a.below _)
end
theorem Ia {w0:Wq}{r:Xg}{d:Xs}{k:Nat}{y z:eF}(T:j7 w0 w r d vn B y){s:Wz}{v:Int}{R:List Pc}(h:dD r.l d.i=(4,s)::R)(j:mq (bs s) v)(I:∃z,(fM y).toArray[k]?=some (I6 z))(c:(fM y).toArray.setIfInBounds k (I6 v)=(fM z).toArray):Calls prog 393 #[r.p,.pointer (some ⟨B,k,none⟩)] w λe w'=>e=.returned (.bool true)/\j7 w0 w' r {d with i:=d.i+1} vn B z:=by
 obtain⟨t,ht,q,rfl,_,hi⟩:=dI h;obtain⟨M,g,cap,l⟩:=r;obtain⟨i,out,made,opn⟩:=d;replace hi:i<l.length:=hi;have u:=T.P.len;have J:=T.P.c0;have K:=T.P.c1;have E:w.cell? ⟨g,i*4,none⟩=some (I6 t.kind):=T.P.toks.2 i t ht 0 _ rfl;have F:w.cell? ⟨g,i*4+1,none⟩=some (.string t.text):=T.P.toks.2 i t ht 1 _ rfl;have n:t.text.size<=16384:=T.P.txt t (aE ht);have b1:decide (l.length<=i)=false:=by rw[bX];omega
 have N:(i:Int)<(l.length:Int):=by omega
 have O:(0:Int)<=(i:Int):=by omega
 have P:(t.kind !=4)=false:=by rw[q];rfl
 have D:=Hi (λ(w':Wq)(H:Below M w w')=>Ff t.text j n w' (T.P.env.next H).env);obtain⟨A,m⟩:=I;have C:w.cell? ⟨B,k,none⟩=some (I6 A):=(T.cell k).t m;have vs:=Hi (Array.getElem?_eq_some_iff.1 T.T).1;have Q:IntKind.i64.wrap ((i:Int)+1)=(i:Int)+1:=bu _ (by simp only at u;omega);replace T:=Hi T;replace c:=Hi c;clear h q j ht u n m hi;go_enter func393,ntmps393;go_wp2_with fail;go_quiet(fail);go_wp2_with fail;go_region_law (go_simp;go_at_call 281;refine(D.o _ ((Qt.self w _).below M)).mono ?_;rintro e x ⟨rfl,jn⟩;go_wp2_with fail);all_goals(have a:=(T.o.qt (Qt.self w (nq+1))).up jn;have o:=a.P.c1;have f:=a.P.free 1;have L:x.cell? ⟨B,k,none⟩=some (I6 A):=(jn.cell (p:=⟨B,k,none⟩) vs.o).t C;have G:=a.free k;replace a:=Hi a;clear jn J K E F C;go_upto_region 7 with fail;have b:=a.o.setT k (I6 v) _ c.o;clear a o f L G;generalize x.setCell ⟨B,k,none⟩ (I6 v)=W3 at b⊢;have o:=b.P.c1;have f:=b.P.free 1;replace b:=Hi b;go_wp2_with fail;go_ret;exact⟨rfl,b.o.setAt (i+1)⟩)
def sX (t:eF):List Pc:=if t.form=2 then[(4,ba (gE t.lo)),(7,ba [47]),(4,ez t.len)]else if t.form=3 then[(4,ez t.lo),(7,ba [46,46]),(4,ez t.hi)]else if t.form=4 then[(5,ba [37]++t.pat)]else[(4,ez t.lo)]
theorem L6 {a b:Int}(c:1<=a/\a<=6)(e:1<=b/\b<=6)(h:yt a=yt b):a=b:=by
 have h1:a=1\/a=2\/a=3\/a=4\/a=5\/a=6:=by omega
 have h2:b=1\/b=2\/b=3\/b=4\/b=5\/b=6:=by omega
 rcases h1 with rfl|rfl|rfl|rfl|rfl|rfl<;>rcases h2 with rfl|rfl|rfl|rfl|rfl|rfl<;>first|rfl|exact absurd h (by decide)
def uT (op:Int)(k:Nat):Int:=if op<(k:Int)then op else 0
theorem KT {s:Wz}(h:s.size=0):s=⟨#[]⟩:=by cases s with|mk a=>congr 1;exact oF h
theorem Lw (p:Wz):(ba [37]++p).extract 1 (ba [37]++p).size=p:=by refine E9 ?_;rw[lJ,bY,dG,aJ,bn];show List.take (1+p.size-1) (bs p)=bs p;rw[eu,<-dM,kh]
theorem rC {b c i j:Nat}{v u:Value}(h:w.cell? ⟨b,i,none⟩=some u)(e:b≠c):(w.setCell ⟨c,j,none⟩ v).cell? ⟨b,i,none⟩=some u:=(dH (a:=⟨b,i,none⟩) (aT w _ v b e)).t h
theorem jx {b c i j:Nat}{v u:Value}(h:w.drew.cell? ⟨b,i,none⟩=some u)(a:b≠c):(w.setCell ⟨c,j,none⟩ v).drew.cell? ⟨b,i,none⟩=some u:=rC (w:=w) h a
theorem j7.fin {w0:Wq}{r:Xg}{d:Xs}{y:eF}(T:j7 w0 w r d vn B y)(a:d.o.length<d.made):w.cell? ⟨B,0,none⟩=some (.string y.field)/\w.cell? ⟨B,1,none⟩=some (I6 y.op)/\w.cell? ⟨B,2,none⟩=some (I6 y.form)/\w.cell? ⟨B,3,none⟩=some (I6 y.lo)/\w.cell? ⟨B,4,none⟩=some (I6 y.hi)/\w.cell? ⟨B,5,none⟩=some (I6 y.len)/\w.cell? ⟨B,6,none⟩=some (.string y.pat)/\Calls prog 351 #[r.p,I6 3,.agg #[.string y.field,I6 y.op,I6 y.form,I6 y.lo,I6 y.hi,I6 y.len,.string y.pat]] w (t9 w0 r {d with o:=d.o++[⟨3,y⟩]}):=⟨T.cell 0,T.cell 1,T.cell 2,T.cell 3,T.cell 4,T.cell 5,T.cell 6,(zS T.P 3 _ _ _ _ _ _ _ a).mono λ_ _ h=>⟨h.1,T.b0.t h.2.1,h.2.2⟩⟩
theorem N8 {r:Xg}{d:Xs}{t:eF}(P:fG w r d vn)(V:sJ t){R:List Pc}(h:dD r.l d.i=(7,yt t.op)::(sX t++R))(hR:wN 0 R)(O:d.o.length<d.made):Calls prog 390 #[r.p,.string t.field] w (t9 w r {d with i:=d.i+1+(sX t).length,o:=d.o++[⟨3,t⟩]}):=by
 have j4:=P.lt;obtain⟨field,op,form,lo,hi,len,pat⟩:=t;obtain⟨i,out,made,opn⟩:=d;have N:=Hi (show j7 w (w.alloc (.cells (fM ⟨field,0,0,0,0,0,⟨#[]⟩⟩).toArray 44 (0,0))) r ⟨i,out,made,opn⟩ vn w.heap.size ⟨field,0,0,0,0,0,⟨#[]⟩⟩from⟨P.up ((aB w.heap.size w).alloc Jq _),aG w _,j4,(aB r.M w).alloc (bD j4) _⟩);replace V:=Hi V;replace hR:=Hi hR;have hK:=Hi h;clear P h;go_enter func390,ntmps390;go_upto_region 2 with fail;replace N:j7 w (w.alloc (.cells #[.string field,I6 0,I6 0,I6 0,I6 0,I6 0,.string {data:=#[]}] 44)) r ⟨i,out,made,opn⟩ vn w.heap.size ⟨field,0,0,0,0,0,⟨#[]⟩⟩:=N.o;generalize w.alloc (.cells #[.string field,I6 0,I6 0,I6 0,I6 0,I6 0,.string {data:=#[]}] 44)=wc at N⊢;obtain⟨B,hB⟩:=Jj w.heap.size;rw[hB]at N⊢;clear hB;have jt:1<=op/\op<=6:=V.o.op;replace N:=Hi (show j7 w wc r ⟨i,out,made,opn⟩ vn B ⟨field,uT op 1,0,0,0,0,⟨#[]⟩⟩by rw[show uT op 1=0 by unfold uT;split<;>omega];exact N);clear j4;go_wp2_with fail;go_loopw [6] (λa wr=>∃k:Nat,a=I6 k/\1<=k/\k<=7/\Hid (j7 w wr r ⟨i,out,made,opn⟩ vn B ⟨field,uT op k,0,0,0,0,⟨#[]⟩⟩))(λa _=>7-(intOf a).toNat);case atStart=>exact⟨1,rfl,by omega,by omega,N⟩
 case round=>
  obtain⟨k,rfl,vr,vl,T⟩:=hrel;obtain⟨wq,rfl⟩:=Jv wr;have o:wq.cell? ⟨B,1,none⟩=some (I6 (uT op k)):=T.o.cell 1;by_cases hk:k<=6
  .have bk:(k:Int)<=6:=by omega
   have bwk:=wS k (by omega);have co:=Hi (λ(W:Wq)=>B3 (k:Int) (by omega) W);have U:=jR T.o.P hK.o (yt k);by_cases hop:op=(k:Int)
   .rw[aV (show(7:Int)=7/\yt op=yt k from⟨rfl,by rw[hop]⟩)]at U;have j3:uT op (k+1)=(k:Int):=by unfold uT;rw[hop];split<;>omega
    replace j3:=Hi j3;replace U:=Hi U;clear hop N jt;go_upto_region 6 with(first|(go_at_call 349;refine U.o.mono ?_;rintro e w' ⟨rfl,A⟩)|(go_at_call 392;refine(co.o _).mono ?_;rintro e w' ⟨rfl,rfl⟩));have T1:=T.o.qt A;have f:w'.cell? ⟨B,1,none⟩=some (I6 (uT op k)):=T1.cell 1;have f2:=T1.free 1;have J:=T1.setT 1 (I6 (k:Int)) ⟨field,(k:Int),0,0,0,0,⟨#[]⟩⟩ rfl;replace J:=Hi J;clear T T1 A o co U;go_wp2_with fail;go_roundw;case rel=>exact⟨k+1,by first|rfl|go_num,by omega,by omega,Hi (by rw[j3.o];exact J.o)⟩
    case measure=>simp[intOf];omega
   .rw[aM (show¬((7:Int)=7/\yt op=yt k)from λh=>hop (L6 jt (by omega) h.2))]at U;have j3:uT op (k+1)=uT op k:=by unfold uT;split<;>split<;>omega
    replace j3:=Hi j3;replace U:=Hi U;clear hop N jt;go_wp2_with(first|(go_at_call 349;refine U.o.mono ?_;rintro e w' ⟨rfl,A⟩;replace A:=Hi A)|(go_at_call 392;refine(co.o _).mono ?_;rintro e w' ⟨rfl,rfl⟩));go_roundw;case rel=>exact⟨k+1,by first|rfl|go_num,by omega,by omega,Hi (by rw[j3.o];exact T.o.qt A.o)⟩
    case measure=>simp[intOf];omega
  .have bk:¬(k:Int)<=6:=by omega
   have vo:k=7:=by omega
   subst vo;rw[show uT op (7:Nat)=op by unfold uT;split<;>omega]at T o;clear hk vr vl N;obtain⟨M,g,cap,l⟩:=r;go_upto_region 7 with fail;have b0:(op==0)=false:=by rw[dU];omega
   have L:=T.o.P.c1;have f1:=T.o.P.free 1;have bw:IntKind.i64.wrap ((i:Int)+1)=(i:Int)+1:=bu _ (by have:=T.o.P.len;obtain⟨_,_,_,_,_,h⟩:=dI hK.o;simp only at h this;omega);go_upto_region 10 with fail;have J:j7 w (wq.setCell ⟨M,1,none⟩ (I6 ((i:Int)+1))) ⟨M,g,cap,l⟩ ⟨i+1,out,made,opn⟩ vn B _:=T.o.setAt (i+1);clear T o L f1 bk bw;generalize wq.setCell ⟨M,1,none⟩ (I6 ((i:Int)+1))=W2 at J⊢;obtain⟨_,_,_,_,Y,_⟩:=dI hK.o;replace Y:dD l (i+1)=sX ⟨field,op,form,lo,hi,len,pat⟩++R:=Y;clear hK;obtain⟨j,X⟩:=Jj (i+1);rw[X]at J Y;rw[X];have q0:=J.P.c0;have L:W2.cell? ⟨M,1,none⟩=some (I6 j):=J.P.c1;have o:W2.cell? ⟨B,1,none⟩=some (I6 op):=J.cell 1;have ql:=J.P.lt;have qa:=J.P.toks.1;have Q:=Hi J;clear J;replace X:=Hi X;go_cut[7] (λv wx=>wx=W2/\v=.bool (decide (op<=2)));case first=>
    rcases(show op=1\/op=2\/2<op by omega)with rfl|rfl|h2;iterate 2 clear jt;go_wp2_with fail;go_meet;exact⟨rfl,rfl⟩
    have d1:(op==1)=false:=by rw[dU];omega
    have d2:(op==2)=false:=by rw[dU];omega
    have d3:=Hi (show decide (op<=2)=false by rw[bX];omega);clear jt h2;go_wp2_with fail;go_meet;exact⟨rfl,by simp[d1,d2,d3.o]⟩
   case rest=>
   obtain⟨rfl,rfl⟩:=hcut;obtain⟨B7,qr⟩:=Jj (decide (op<=2));rw[qr];clear b0 o;have qw:(sX ⟨field,op,form,lo,hi,len,pat⟩=[(5,ba [37]++pat)]/\form=4/\lo=0/\hi=0/\len=0/\B7=true)\/∃s1 R1,sX ⟨field,op,form,lo,hi,len,pat⟩=(4,s1)::R1/\mq (bs s1) lo/\pat=⟨#[]⟩/\(form=1/\R1=[]/\hi=0/\len=0\/B7=true/\(form=2/\R1=[(7,ba [47]),(4,ez len)]/\hi=0\/form=3/\R1=[(7,ba [46,46]),(4,ez hi)]/\len=0)):=by
    have K:=V.o;have h7:form≠1->B7=true:=λh=>by rw[<-qr];exact aV (K.two.resolve_right h)
    have f4:=K.form;have hl:=K.lo;have hp:=λh=>KT (K.pat h);have hh:=K.hi.2;have O:=K.len.2;dsimp only at f4 hl hp hh O;rcases(show form=1\/form=2\/form=3\/form=4 by omega)with rfl|rfl|rfl|rfl
    .exact .inr ⟨ez lo,[],rfl,nU hl.1.1 hl.1.2,hp (by decide),.inl ⟨rfl,rfl,hh (by decide),O (by decide)⟩⟩
    .exact .inr ⟨ba (gE lo),_,rfl,⟨hl.1.1,hl.1.2,.inr (dG _)⟩,hp (by decide),.inr ⟨h7 (by decide),.inl ⟨rfl,rfl,hh (by decide)⟩⟩⟩
    .exact .inr ⟨ez lo,_,rfl,nU hl.1.1 hl.1.2,hp (by decide),.inr ⟨h7 (by decide),.inr ⟨rfl,rfl,O (by decide)⟩⟩⟩
    .exact .inl ⟨rfl,rfl,hl.2 rfl,hh (by decide),O (by decide),h7 (by decide)⟩
   replace qr:=Hi qr;rcases qw with⟨hT,rfl,rfl,rfl,rfl,rfl⟩|⟨s1,R1,hT,vm,rfl,q7⟩
   .rw[hT]at Y;obtain⟨u,ht,qf,j8,_,j9⟩:=dI Y;have qo:u.text.size<=16384:=Q.o.P.txt u (aE ht);have e0:wc.cell? ⟨g,j*4,none⟩=some (I6 u.kind):=Q.o.P.toks.2 j u ht 0 _ rfl;have e1:wc.cell? ⟨g,j*4+1,none⟩=some (.string u.text):=Q.o.P.toks.2 j u ht 1 _ rfl;have cp:=Hi (λ(W:Wq)(hb:Below M wc W)=>show Calls prog 307 #[.string u.text] W λe w'=>e=.returned (.bool true)/\JJ W w' from by rw[j8];exact vM pat (V.o.pat4 rfl).1.1 (V.o.pat4 rfl).1.2 (V.o.pat4 rfl).2 W (Q.o.P.env.next hb).env);have c1:decide (j<l.length)=true:=aV j9;have c2:(j:Int)<(l.length:Int):=by omega
    have c3:(0:Int)<=(j:Int):=by omega
    have c4:(1:Int)<=(u.text.size:Int):=by rw[j8,aJ,bn];simp only[aD,aL];omega
    have bk5:(u.kind==5)=true:=by rw[qf];rfl
    have vt:=Hi (show u.text.extract 1 u.text.size=pat by rw[j8];exact Lw pat);have bwi:IntKind.i64.wrap ((j:Int)+1)=(j:Int)+1:=bu _ (by have:=Q.o.P.len;simp only at this;omega);clear qo ht qf j8 j9;go_upto_region 11 with fail;go_region_held3 (λW=>W.cell? ⟨M,0,none⟩=some (zA g cap l)/\W.cell? ⟨M,1,none⟩=some (I6 j)/\W.cell? ⟨g,j*4,none⟩=some (I6 u.kind)/\W.cell? ⟨g,j*4+1,none⟩=some (.string u.text)) (first|exact hHeld|exact⟨q0,L,e0,e1⟩|exact⟨(jn.cell (p:=⟨M,0,none⟩) ql).t q0,(jn.cell (p:=⟨M,1,none⟩) ql).t L,(jn.cell (p:=⟨g,j*4,none⟩) qa).t e0,(jn.cell (p:=⟨g,j*4+1,none⟩) qa).t e1⟩|fail) ((go_simp;go_at_call 307;refine(cp.o _ ((Qt.self wc 1).below M)).mono ?_;rintro e wz ⟨rfl,jn⟩;go_wp2_with fail));have E:=(Q.o.qt (Qt.self wc 1)).up jn;have vg:=Hi E;have k0:=E.P.c0;have k1:wz.cell? ⟨M,1,none⟩=some (I6 j):=E.P.c1;have k2:wz.cell? ⟨g,j*4+1,none⟩=some (.string u.text):=(jn.cell (p:=⟨g,j*4+1,none⟩) qa).t e1;have f:wz.cell? ⟨B,2,none⟩=some (I6 0):=E.cell 2;have f2:=E.free 2;have C:wz.cell? ⟨B,6,none⟩=some (.string ⟨#[]⟩):=E.cell 6;have f6:=E.free 6;have n1:M≠B:=by have:=E.mB;simp only at this;omega
    have n2:g≠B:=by have:=E.mB;have:=E.P.gM;simp only at*;omega
    clear E jn q0 L e0 e1 Q ql qa cp;(try clear hHeld);go_upto_region 12 with fail;go_region_held3 (λW=>W.cell? ⟨M,0,none⟩=some (zA g cap l)/\W.cell? ⟨M,1,none⟩=some (I6 j)/\W.cell? ⟨g,j*4+1,none⟩=some (.string u.text)) (first|exact hHeld|exact⟨k0,k1,k2⟩|exact⟨jx (rC k0 n1) n1,jx (rC k1 n1) n1,jx (rC k2 n2) n2⟩|exact⟨jx k0 n1,jx k1 n1,jx k2 n2⟩|fail) (fail);have D:j7 w ((wz.setCell ⟨B,2,none⟩ (I6 4)).setCell ⟨B,6,none⟩ (.string (u.text.extract 1 u.text.size))).drew ⟨M,g,cap,l⟩ ⟨j,out,made,opn⟩ vn B _:=((vg.o.setT 2 (I6 4) ⟨field,op,4,0,0,0,⟨#[]⟩⟩ rfl).setT 6 (.string (u.text.extract 1 u.text.size)) ⟨field,op,4,0,0,0,u.text.extract 1 u.text.size⟩ rfl).qt (Qt.self _ 1);(try clear hHeld);clear vg k0 k1 k2 f f2 C f6;generalize((wz.setCell ⟨B,2,none⟩ (I6 4)).setCell ⟨B,6,none⟩ (.string (u.text.extract 1 u.text.size))).drew=W4 at D⊢;have L:W4.cell? ⟨M,1,none⟩=some (I6 j):=D.P.c1;have f1:=D.P.free 1;go_upto_region 14 with fail;have b:j7 w (W4.setCell ⟨M,1,none⟩ (I6 ((j:Int)+1))) ⟨M,g,cap,l⟩ ⟨j+1,out,made,opn⟩ vn B _:=D.setAt (j+1);clear D L f1;rw[vt.o]at b;generalize W4.setCell ⟨M,1,none⟩ (I6 ((j:Int)+1))=W5 at b⊢;(obtain⟨F,o,f,G,H,I,C,jf⟩:=b.fin O;dsimp only at F o f G H I C jf;replace jf:=Hi jf;clear b;go_wp2_with fail;refine jf.o.mono ?_;rintro e w6 ⟨rfl,x⟩;replace x:=Hi x;clear jf F o f G H I C;go_wp2_with fail;go_ret;rw[hT];have:=x.o;(try rw[<-hm.o]at this);rw[<-X.o]at this;exact⟨rfl,this⟩)
   rw[hT]at Y;obtain⟨qs,jk⟩:dD l j=(4,s1)::(R1++R)/\dD l (j+1)=R1++R:=by obtain⟨_,_,_,_,h,_⟩:=dI Y;exact⟨Y,h⟩
   replace jk:=Hi jk;replace q7:=Hi q7;go_upto_region 11 with fail;go_cut[80] (λv wx=>v=.bool false/\Qt wc wx);case first=>cases B7 with|false=>go_quiet(fail);go_wp2_with fail;go_meet;exact⟨rfl,Qt.self _ _⟩|true=>
     obtain⟨u,ht,qf,j8,_,j9⟩:=dI qs;have bk:(u.kind==5)=false:=by rw[qf];rfl
     have e0:wc.cell? ⟨g,j*4,none⟩=some (I6 u.kind):=Q.o.P.toks.2 j u ht 0 _ rfl;have c1:decide (j<l.length)=true:=aV j9;have c2:(j:Int)<(l.length:Int):=by omega
     have c3:(0:Int)<=(j:Int):=by omega
     clear ht qf j8 j9 qs Y;go_quiet(fail);go_wp2_with fail;go_meet;exact⟨rfl,Qt.self _ _⟩
   case rest=>obtain⟨rfl,A⟩:=hcut;have E:=Q.o.qt A;have Z:=Hi (Ia (k:=3) (z:=⟨field,op,0,lo,0,0,⟨#[]⟩⟩) E qs vm ⟨0,rfl⟩ rfl);clear q0 L Q A E ql qa;go_wp2_with fail;refine Z.o.mono ?_;rintro e w1 ⟨rfl,D⟩;replace D:j7 w w1 ⟨M,g,cap,l⟩ ⟨j+1,out,made,opn⟩ vn B ⟨field,op,0,lo,0,0,⟨#[]⟩⟩:=D;obtain⟨m,hm⟩:=Jj (j+1);rw[hm]at D jk;replace hm:=Hi hm;have f:w1.cell? ⟨B,2,none⟩=some (I6 0):=D.cell 2;have f2:=D.free 2;replace D:=Hi D;clear Z;go_upto_region 18 with fail;have n:=D.o.setT 2 (I6 1) ⟨field,op,1,lo,0,0,⟨#[]⟩⟩ rfl;clear D f f2;generalize w1.setCell ⟨B,2,none⟩ (I6 1)=W at n⊢;rcases q7.o with⟨rfl,rfl,rfl,rfl⟩|⟨rfl,⟨rfl,rfl,rfl⟩|⟨rfl,rfl,rfl⟩⟩;cases B7;go_upto_region 28 with fail;have b:=n;clear n;(obtain⟨F,o,f,G,H,I,C,jf⟩:=b.fin O;dsimp only at F o f G H I C jf;replace jf:=Hi jf;clear b;go_wp2_with fail;refine jf.o.mono ?_;rintro e w6 ⟨rfl,x⟩;replace x:=Hi x;clear jf F o f G H I C;go_wp2_with fail;go_ret;rw[hT];have:=x.o;(try rw[<-hm.o]at this);rw[<-X.o]at this;exact⟨rfl,this⟩);obtain⟨k,s,q,vf,q5⟩:=hR.o;replace jk:=jk.o.t vf;have jm:=jR n.P jk (ba [47]);rw[aM (λh=>(q5 h.1).1 h.2)]at jm;have qb:=Hi λW' (A:Qt W W')=>(show Calls _ _ _ _ _ from by have:=jR (n.qt A).P jk (ba [46,46]);rw[aM (λh=>(q5 h.1).2.1 h.2)]at this;exact this);replace jm:=Hi jm;replace n:=Hi n;clear jk q5 vf;go_upto_region 23 with(go_at_call 349;refine jm.o.mono ?_;rintro e w' ⟨rfl,jl⟩;replace jl:=Hi jl;clear jm);go_upto_region 28 with(go_at_call 349;refine(qb.o _ jl.o).mono ?_;rintro e w'' ⟨rfl,qg⟩);have b:=(n.o.qt jl.o).qt qg;clear n qb jl qg;(obtain⟨F,o,f,G,H,I,C,jf⟩:=b.fin O;dsimp only at F o f G H I C jf;replace jf:=Hi jf;clear b;go_wp2_with fail;refine jf.o.mono ?_;rintro e w6 ⟨rfl,x⟩;replace x:=Hi x;clear jf F o f G H I C;go_wp2_with fail;go_ret;rw[hT];have:=x.o;(try rw[<-hm.o]at this);rw[<-X.o]at this;exact⟨rfl,this⟩);obtain⟨_,_,_,_,q9,qy⟩:=dI jk.o;have K:=V.o;have N2:=nU K.len.1.1 (show len<=4294967295 by have:=K.len.1.2;simp only at this;omega);have bw:IntKind.i64.wrap ((m:Int)+1)=(m:Int)+1:=bu _ (by have:=n.P.len;simp only at this qy;omega);have jm:=Hi (jR n.P jk.o (ba [47]));replace n:=Hi n;clear jk;go_upto_region 19 with(go_at_call 349;refine jm.o.mono ?_;rintro e w' ⟨rfl,A⟩);have S:=n.o.qt A;clear n jm A;have c:=S.setT 2 (I6 2) ⟨field,op,2,lo,0,0,⟨#[]⟩⟩ rfl;have f:w'.cell? ⟨B,2,none⟩=some (I6 1):=S.cell 2;have f2:=S.free 2;clear S;replace c:=Hi c;go_upto_region 20 with fail;replace c:=c.o;clear f f2;generalize w'.setCell ⟨B,2,none⟩ (I6 2)=W8 at c⊢;have L:=c.P.c1;have f1:=c.P.free 1;replace c:=Hi c;go_upto_region 21 with fail;have T9:j7 w (W8.setCell ⟨M,1,none⟩ (I6 ((m:Int)+1))) ⟨M,g,cap,l⟩ ⟨m+1,out,made,opn⟩ vn B _:=c.o.setAt (m+1);clear c L f1;have Z:=Hi (Ia (k:=5) (z:=⟨field,op,2,lo,0,len,⟨#[]⟩⟩) T9 q9 N2 ⟨0,rfl⟩ rfl);clear T9;go_wp2_with fail;refine Z.o.mono ?_;rintro e vp ⟨rfl,b⟩;replace b:=Hi b;go_upto_region 28 with fail;replace b:=b.o;clear Z;(obtain⟨F,o,f,G,H,I,C,jf⟩:=b.fin O;dsimp only at F o f G H I C jf;replace jf:=Hi jf;clear b;go_wp2_with fail;refine jf.o.mono ?_;rintro e w6 ⟨rfl,x⟩;replace x:=Hi x;clear jf F o f G H I C;go_wp2_with fail;go_ret;rw[hT];have:=x.o;(try rw[<-hm.o]at this);rw[<-X.o]at this;exact⟨rfl,this⟩);obtain⟨_,_,_,_,q9,qy⟩:=dI jk.o;have K:=V.o;have N2:=nU K.hi.1.1 K.hi.1.2;have bw:IntKind.i64.wrap ((m:Int)+1)=(m:Int)+1:=bu _ (by have:=n.P.len;simp only at this qy;omega);have jm:=Hi (jR n.P jk.o (ba [47]));have qb:=Hi λW' (A:Qt W W')=>jR (n.qt A).P jk.o (ba [46,46]);replace n:=Hi n;clear jk;go_upto_region 23 with(go_at_call 349;refine jm.o.mono ?_;rintro e wz ⟨rfl,jl⟩;replace jl:=Hi jl;clear jm);go_upto_region 24 with(go_at_call 349;refine(qb.o _ jl.o).mono ?_;rintro e w' ⟨rfl,qg⟩);have S:=(n.o.qt jl.o).qt qg;clear n qb jl qg;have c:=S.setT 2 (I6 3) ⟨field,op,3,lo,0,0,⟨#[]⟩⟩ rfl;have f:w'.cell? ⟨B,2,none⟩=some (I6 1):=S.cell 2;have f2:=S.free 2;clear S;replace c:=Hi c;go_upto_region 25 with fail;replace c:=c.o;clear f f2;generalize w'.setCell ⟨B,2,none⟩ (I6 3)=W8 at c⊢;have L:=c.P.c1;have f1:=c.P.free 1;replace c:=Hi c;go_upto_region 26 with fail;have T9:j7 w (W8.setCell ⟨M,1,none⟩ (I6 ((m:Int)+1))) ⟨M,g,cap,l⟩ ⟨m+1,out,made,opn⟩ vn B _:=c.o.setAt (m+1);clear c L f1;have Z:=Hi (Ia (k:=4) (z:=⟨field,op,3,lo,hi,0,⟨#[]⟩⟩) T9 q9 N2 ⟨0,rfl⟩ rfl);clear T9;go_wp2_with fail;refine Z.o.mono ?_;rintro e vp ⟨rfl,b⟩;replace b:=Hi b;go_upto_region 28 with fail;replace b:=b.o;clear Z;(obtain⟨F,o,f,G,H,I,C,jf⟩:=b.fin O;dsimp only at F o f G H I C jf;replace jf:=Hi jf;clear b;go_wp2_with fail;refine jf.o.mono ?_;rintro e w6 ⟨rfl,x⟩;replace x:=Hi x;clear jf F o f G H I C;go_wp2_with fail;go_ret;rw[hT];have:=x.o;(try rw[<-hm.o]at this);rw[<-X.o]at this;exact⟨rfl,this⟩)
end Go.Proofs.YtgfgoaeaicefcaaGreatDoor
