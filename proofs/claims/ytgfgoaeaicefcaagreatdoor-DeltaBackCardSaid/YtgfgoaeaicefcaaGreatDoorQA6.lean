/- Part of DeltaBack. -/
import Derived.Test.YtgfgoaeaicefcaaGreatDoorQA5
set_option maxHeartbeats 16000000
set_option maxRecDepth 100000
set_option linter.all false
namespace Go.Proofs.YtgfgoaeaicefcaaGreatDoor
open Go.RowKit Tryz
def et (w:Wq)(M:Nat)(t:eF):Prop:=w.heap[M]?=some (.cells (fM t).toArray 44 (0,0))
section
variable {w w':Wq} {M:Nat} {t:eF}
theorem et.new (w:Wq)(t:eF):et (w.alloc (.cells (fM t).toArray 44 (0,0))) w.heap.size t:=aG w _
theorem et.below (h:et w M t){B:Nat}(b:Below B w w')(a:M<B):et w' M t:=(b.block _ a).t h
theorem et.lt (h:et w M t):M<w.heap.size:=(Array.getElem?_eq_some_iff.1 h).1
theorem et.c0 (h:et w M t):w.cell? ⟨M,0,none⟩=some (.string t.field):=by simpa[fM]using aA w M 0 _ _ (0,0) h
theorem et.c1 (h:et w M t):w.cell? ⟨M,1,none⟩=some (I6 t.op):=by simpa[fM]using aA w M 1 _ _ (0,0) h
theorem et.c2 (h:et w M t):w.cell? ⟨M,2,none⟩=some (I6 t.form):=by simpa[fM]using aA w M 2 _ _ (0,0) h
theorem et.c3 (h:et w M t):w.cell? ⟨M,3,none⟩=some (I6 t.lo):=by simpa[fM]using aA w M 3 _ _ (0,0) h
theorem et.c4 (h:et w M t):w.cell? ⟨M,4,none⟩=some (I6 t.hi):=by simpa[fM]using aA w M 4 _ _ (0,0) h
theorem et.c5 (h:et w M t):w.cell? ⟨M,5,none⟩=some (I6 t.len):=by simpa[fM]using aA w M 5 _ _ (0,0) h
theorem et.c6 (h:et w M t):w.cell? ⟨M,6,none⟩=some (.string t.pat):=by simpa[fM]using aA w M 6 _ _ (0,0) h
end
def KL (t:eF):Bool:=decide (1<=t.op/\t.op<=6/\1<=t.form/\t.form<=4)
def My (t:eF):Bool:=!(decide (2<t.op)&&!decide (t.form=1))
def Mx (t:eF):Bool:=!(decide (t.form=4)&&!decide (t.lo=0))&&!(!decide (t.form=3)&&!decide (t.hi=0))&&!(!decide (t.form=2)&&!decide (t.len=0))&&!(!decide (t.form=4)&&!t.pat.toList.isEmpty)
def Mv (t:eF)(bits:Int):Bool:=decide (0<=t.lo/\t.lo<=ix bits/\0<=t.hi/\t.hi<=ix bits/\0<=t.len/\t.len<=bits)
def Mt (t:eF)(bits:Int):Bool:=!(decide (t.form=2)&&(Go.bits .and .i64 t.lo (ix (bits-t.len)) !=0))
def Mq (t:eF):Bool:=!(decide (t.form=3)&&decide (t.hi<t.lo))
def Qy (t:eF)(bits:Int):Bool:=!(decide (t.form=4)&&!(decide ((t.pat.size:Int)=bits)&&mZ t.pat))
theorem Ii (s:Wz):(Lib.trimS s.data.toList [48,49,120]=[])↔mZ s=true:=by rw[zV];unfold mn mZ;rw[show(λc:UInt8=>[48,49,120].contains c)=i7 from funext λc=>Ig (p:=λc=>[48,49,120].contains c) (q:=i7) (by decide+kernel) c];rfl
theorem O7 (t:eF)(bits:Int):BP t bits=(KL t&&My t&&Mx t&&Mv t bits&&Mt t bits&&Mq t&&Qy t bits):=rfl
theorem Q0 (t:eF)(bits:Int)(qs:1<=bits)(N:bits<=32)(w:Wq)(E:gu w)(hs:Sm t.pat):Calls prog 291 #[.agg (fM t).toArray,I6 bits] w (jH (BP t bits) w):=by
 have f:=Hi (O7 t bits);generalize BP t bits=R at*;obtain⟨W,F⟩:=Jj (w.alloc (.cells (fM t).toArray 44 (0,0)));have jk:=Hi (show JJ w W by exact Jk F);have a:=Hi (show et W w.heap.size t by rw[<-F];exact et.new w t);have T:=a.o.c1;have l:=a.o.c2;have S:=Hi E;go_enter func291,ntmps291;go_upto_region 1 with fail;clear F;go_cut[23] (λv d=>d=W/\v=.bool (!KL t));case first=>as_aux_lemma=>
   go_wp2;all_goals(go_meet)
   all_goals(refine⟨rfl,gJ ?_⟩;unfold KL;rw[eD];simp;omega)
 case rest=>
 obtain⟨rfl,rfl⟩:=hcut;cases h1:KL t
 .have H:=Hi (eB (w:=w) (w':=wc) (k:=47) (show R=false by rw[f.o,h1];rfl) (by decide) jk.o);go_wp2_with fail;go_ret;exact H.o
 rw[h1]at f;have K:1<=t.op/\t.op<=6/\1<=t.form/\t.form<=4:=by simpa[KL]using h1
 clear h1;go_upto_region 3 with fail;go_cut[31] (λv d=>d=wc/\v=.bool (!My t));case first=>as_aux_lemma=>
   go_wp2;all_goals(go_meet)
   all_goals(refine⟨rfl,gJ ?_⟩;unfold My;rw[eD];simp;omega)
 case rest=>
 obtain⟨rfl,rfl⟩:=hcut;cases h2:My t
 .have H:=Hi (eB (w:=w) (k:=47) (show R=false by rw[f.o,h2];rfl) (by decide) jk.o);go_wp2_with fail;go_ret;exact H.o
 rw[h2]at f;clear h2;obtain⟨K,Z,P,Q⟩:=K;have jl:=jk.o.size;have jm:w.heap.size<wc.heap.size:=a.o.lt;obtain⟨g,rfl⟩:=Jv wc;have r:=a.o.c3;have q4:=a.o.c4;have z:=a.o.c5;have y:=a.o.c6;have A:=Hi (S.o.below jk.o);go_upto_region 5 with fail;go_cut[5] (λv d=>v=.pointer (some ⟨g.heap.size,0,none⟩)/\Hid (d.heap[g.heap.size]?=some (.cells #[.bool (!decide (t.form=4)),.bool (decide (t.form=3)),.bool (decide (t.form=2)),.bool (decide (t.form=4))] 355 (0,0)))/\Hid (JJ g d));case first=>as_aux_lemma=>
   have jy:=Hi λo=>(aB g.heap.size g).alloc Jq o;obtain h|h|h|h:t.form=1\/t.form=2\/t.form=3\/t.form=4:=by omega
   all_goals rw[h]at l;replace h:=Hi h
   .obtain⟨u0,u1,u2,u3⟩:=A.o.uses 4 5 6 7 rfl rfl rfl rfl;go_wp2;go_meet;exact⟨rfl,Hi (by rw[h.o];exact aG g _),jy.o _⟩
   .obtain⟨u0,u1,u2,u3⟩:=A.o.uses 8 9 10 11 rfl rfl rfl rfl;go_wp2;go_meet;exact⟨rfl,Hi (by rw[h.o];exact aG g _),jy.o _⟩
   .obtain⟨u0,u1,u2,u3⟩:=A.o.uses 12 13 14 15 rfl rfl rfl rfl;go_wp2;go_meet;exact⟨rfl,Hi (by rw[h.o];exact aG g _),jy.o _⟩
   .obtain⟨u0,u1,u2,u3⟩:=A.o.uses 16 17 18 19 rfl rfl rfl rfl;go_wp2;go_meet;exact⟨rfl,Hi (by rw[h.o];exact aG g _),jy.o _⟩
 case rest=>
 obtain⟨rfl,u,c⟩:=hcut;replace jk:=Hi (jk.o.t (c.o.mono jl));replace a:=Hi (a.o.below c.o jm);clear c T l r q4 z y A jl;have l:=a.o.c2;have r:=a.o.c3;have q4:=a.o.c4;have z:=a.o.c5;have y:=a.o.c6;go_upto_region 6 with fail;go_cut[73] (λv d=>d=wc/\v=.bool (!Mx t));case first=>as_aux_lemma=>
   have u0:wc.cell? ⟨g.heap.size,0,none⟩=some (.bool (!decide (t.form=4))):=by rw[aA wc _ _ _ _ _ u.o];rfl
   have u1:wc.cell? ⟨g.heap.size,1,none⟩=some (.bool (decide (t.form=3))):=by rw[aA wc _ _ _ _ _ u.o];rfl
   have u2:wc.cell? ⟨g.heap.size,2,none⟩=some (.bool (decide (t.form=2))):=by rw[aA wc _ _ _ _ _ u.o];rfl
   have u3:wc.cell? ⟨g.heap.size,3,none⟩=some (.bool (decide (t.form=4))):=by rw[aA wc _ _ _ _ _ u.o];rfl
   have h3:Hid (Mx t=(!(decide (t.form=4)&&!decide (t.lo=0))&&!(!decide (t.form=3)&&!decide (t.hi=0))&&!(!decide (t.form=2)&&!decide (t.len=0))&&!(!decide (t.form=4)&&!t.pat.toList.isEmpty))):=Hi rfl;clear u;obtain h|h|h|h:t.form=1\/t.form=2\/t.form=3\/t.form=4:=by omega
   all_goals
    rw[h]at l h3 u0 u1 u2 u3;simp only[Int.reduceEq,decide_true,decide_false,Bool.not_true,Bool.not_false]at u0 u1 u2 u3;clear h P Q;go_wp2;all_goals(go_meet)
    all_goals(refine⟨rfl,gJ ?_⟩;rw[h3.o];simp_all)
 case rest=>
 obtain⟨rfl,rfl⟩:=hcut;clear u;cases h3:Mx t
 .have H:=Hi (eB (w:=w) (w':=wc) (k:=47) (show R=false by rw[f.o,h3];rfl) (by decide) jk.o);go_wp2_with fail;go_ret;exact H.o
 rw[h3]at f;clear h3;obtain⟨I,rfl⟩:=Jv wc;have p:Hid (∀w',Calls prog 289 #[I6 bits] w' λe G=>e=.returned (I6 (ix bits))/\G=w'):=Hi λw'=>(AL bits (by omega) N w').mono λ_ _ h=>⟨h.1,h.2.symm⟩;go_upto_region 8 with fail;go_cut[106] (λv d=>v=.bool (!Mv t bits)/\Hid (JJ I d));case first=>as_aux_lemma=>
   have i:=Hi (show Mv t bits=decide (0<=t.lo/\t.lo<=ix bits/\0<=t.hi/\t.hi<=ix bits/\0<=t.len/\t.len<=bits)from rfl);have j:=Hi λn=>ar (aB I.heap.size I) n;generalize ix bits=tp at*;by_cases b1:t.lo<0
   .go_quiet(exact du (p.o _));go_wp2_with fail;go_meet;exact⟨gJ (by rw[i.o];simp;omega),j.o _⟩
   have C:decide (t.lo<0)=false:=aM b1;by_cases b2:t.lo>tp
   .go_quiet(exact du (p.o _));go_wp2_with fail;go_meet;exact⟨gJ (by rw[i.o];simp;omega),j.o _⟩
   have O:decide (t.lo>tp)=false:=aM b2;by_cases b3:t.hi<0
   .go_quiet(exact du (p.o _));go_wp2_with fail;go_meet;exact⟨gJ (by rw[i.o];simp;omega),j.o _⟩
   have V:decide (t.hi<0)=false:=aM b3;by_cases b4:t.hi>tp
   .go_quiet(exact du (p.o _));go_wp2_with fail;go_meet;exact⟨gJ (by rw[i.o];simp;omega),j.o _⟩
   have X:decide (t.hi>tp)=false:=aM b4;by_cases b5:t.len<0
   .go_quiet(exact du (p.o _));go_wp2_with fail;go_meet;exact⟨gJ (by rw[i.o];simp;omega),j.o _⟩
   have Y:decide (t.len<0)=false:=aM b5;go_quiet(exact du (p.o _));go_wp2_with fail;go_meet;exact⟨gJ (by rw[i.o,eD];simp;omega),j.o _⟩
 case rest=>
 obtain⟨rfl,c⟩:=hcut;replace jk:=Hi (JK jk.o c.o);replace a:=Hi (a.o.below c.o a.o.lt);clear c l r q4 z y;cases i:Mv t bits
 .have H:=Hi (eB (w:=w) (w':=wc) (k:=42) (show R=false by rw[f.o,i];rfl) (by decide) jk.o);go_wp2_with fail;go_ret;exact H.o
 rw[i]at f;obtain⟨j1,j2,j3,j4,j5,j6⟩:0<=t.lo/\t.lo<=ix bits/\0<=t.hi/\t.hi<=ix bits/\0<=t.len/\t.len<=bits:=dC i;have jt:=jd (b:=bits) (by omega) N;clear i p;have l:=a.o.c2;have r:=a.o.c3;have q4:=a.o.c4;have z:=a.o.c5;have y:=a.o.c6;obtain⟨J,rfl⟩:=Jv wc;have D:Hid (∀w',Calls prog 289 #[I6 (bits-t.len)] w' λe G=>e=.returned (I6 (ix (bits-t.len)))/\G=w'):=Hi λw'=>(AL (bits-t.len) (by omega) (by omega) w').mono λ_ _ h=>⟨h.1,h.2.symm⟩;go_upto_region 10 with fail;go_cut[120] (λv d=>v=.bool (!Mt t bits)/\Hid (JJ J d));case first=>as_aux_lemma=>
   have s:=Hi (show Mt t bits=!(decide (t.form=2)&&(Go.bits .and .i64 t.lo (ix (bits-t.len)) !=0))from rfl);have j:=Hi λn=>ar (aB J.heap.size J) n;have hw1:IntKind.i64.wrap (bits-t.len)=bits-t.len:=bu _ (by omega);generalize ix (bits-t.len)=tp at*;by_cases b1:t.form=2
   .go_quiet(exact du (D.o _));go_wp2_with fail;go_meet;exact⟨gJ (by rw[s.o];simp[b1]),j.o _⟩
   .have C:(t.form==2)=false:=by simp[b1]
    go_quiet(exact du (D.o _));go_wp2_with fail;go_meet;exact⟨gJ (by rw[s.o];simp[b1]),j.o _⟩
 case rest=>
 obtain⟨rfl,c⟩:=hcut;replace jk:=Hi (JK jk.o c.o);replace a:=Hi (a.o.below c.o a.o.lt);clear c l r q4 z y D;cases s:Mt t bits
 .have H:=Hi (eB (w:=w) (w':=wc) (k:=42) (show R=false by rw[f.o,s];rfl) (by decide) jk.o);go_wp2_with fail;go_ret;exact H.o
 rw[s]at f;clear s;have l:=a.o.c2;have r:=a.o.c3;have q4:=a.o.c4;go_upto_region 12 with fail;go_cut[130] (λv d=>d=wc/\v=.bool (!Mq t));case first=>as_aux_lemma=>
   go_wp2_with fail;all_goals(go_meet)
   all_goals(refine⟨rfl,gJ ?_⟩;unfold Mq;rw[eD];simp;omega)
 case rest=>
 obtain⟨rfl,rfl⟩:=hcut;cases h6:Mq t
 .have H:=Hi (eB (w:=w) (w':=wc) (k:=43) (show R=false by rw[f.o,h6];simp) (by decide) jk.o);go_wp2_with fail;go_ret;exact H.o
 rw[h6]at f;clear h6 r q4;have y:=a.o.c6;have B:=Hi (show R=!(decide (t.form=4)&&!(decide ((t.pat.size:Int)=bits)&&mZ t.pat))by rw[f.o];simp[Qy]);have L:=Hi (Ii t.pat);have c1:=Hi λw'=>Any.strings_Trim_laid lays160 (by kernel_rfl) t.pat ⟨#[48,49,120]⟩ w' (by unfold Sm at hs;omega) (by decide) (ascii_of_all (by decide));generalize Lib.trimS t.pat.data.toList [48,49,120]=q at*;by_cases b1:t.form=4
 .by_cases b2:(t.pat.size:Int)=bits
  .have C:(t.form==4)=true:=by simp[b1]
   have O:((t.pat.size:Int) !=bits)=false:=by simp[b2]
   cases q with|nil=>have m:=Hi (show R=true by rw[B.o,L.o.1 rfl];simp[b2]);clear b1 b2;go_wp2_with(go_at_call 326;refine(c1.o _).mono ?_;rintro e U ⟨rfl,c⟩);go_ret;exact tV m.o (JK jk.o c)|cons x q=>
     have m:=Hi (show R=false by
      rw[B.o];cases hq:mZ t.pat
      .simp[b1]
      .exact absurd (L.o.2 hq) (by simp));clear b1 b2;go_wp2_with(go_at_call 326;refine(c1.o _).mono ?_;rintro e U ⟨rfl,c⟩);go_ret;exact eB m.o (by decide) (JK jk.o c)
  .have m:=Hi (eB (w:=w) (w':=wc) (k:=44) (show R=false by rw[B.o];simp[b1,b2]) (by decide) jk.o);have C:(t.form==4)=true:=by simp[b1]
   have O:((t.pat.size:Int) !=bits)=true:=by simp[b2]
   clear b1 b2;go_wp2_with fail;go_ret;exact m.o
 .have m:=Hi (tV (w:=w) (w':=wc) (show R=true by rw[B.o];simp[b1]) jk.o);have C:(t.form==4)=false:=by simp[b1]
  clear b1;go_wp2_with fail;go_ret;exact m.o
theorem C5 (v:Int)(b n:Nat)(z:n<=b)(x:b<=32)(w:Wq)(m:0<=v/\v<=9223372036854775807):Calls prog 290 #[I6 v,I6 b,I6 n] w (uE n w):=by
 have k:=Nr w n (by omega);obtain⟨f,e⟩:=Jj (w.alloc (.cells (madeCells #[.int .u8 0] n) 5 (0,0)));have h:Hid (im f w.heap.size (.slice (some ⟨w.heap.size,0,none⟩) n n) (List.replicate n 0)):=Hi (by rw[<-e];exact im.made w n (by unfold maxLen;omega));have l:Hid (JJ w f):=Hi (by rw[<-e];exact(aB w.heap.size w).alloc Jq _);rw[e]at k;have g:Hid ((List.replicate n (0:Int)).length=n):=Hi (by simp);generalize List.replicate n (0:Int)=xs0 at*;obtain⟨A,D⟩:=m;go_enter func290,ntmps290;go_wp2_with fail;clear e k;go_loopw [8,13] (λ_ i wr=>∃(j:Nat)(xs:List Int),j<=n/\i=I6 j/\Hid (xs.length=n)/\Hid (im wr w.heap.size (.slice (some ⟨w.heap.size,0,none⟩) n n) xs)/\Hid (JJ w wr)) (λ_ i _=>n-(intOf i).toNat);case atStart=>exact⟨0,xs0,by omega,rfl,g,h,l⟩
 case round=>
  obtain⟨j,xs,y,rfl,a,d,hB⟩:=hrel;clear g h l;by_cases jm:j<n
  .obtain⟨cx,B⟩:=d.o.cell a.o.symm jm;have C:wr.frozen? ⟨w.heap.size,j,none⟩=false:=World.ownsRow.frozenAt (by have:=d.o;unfold im at this;rw[a.o]at this;exact this) j;have o:Hid (∀c,im (wr.setCell ⟨w.heap.size,j,none⟩ (.int .u8 c)) w.heap.size (.slice (some ⟨w.heap.size,0,none⟩) n n) (xs.set j c)):=Hi λc=>d.o.set a.o.symm j c;have q:Hid (∀c:Int,(xs.set j c).length=n):=Hi λc=>by rw[dX];exact a.o
   have r:Hid (∀c,JJ w (wr.setCell ⟨w.heap.size,j,none⟩ (.int .u8 c))):=Hi λc=>hB.o.setCell (p:=⟨w.heap.size,j,none⟩) Jq _;have b1:(0:Int)<=(b:Int)-1-(j:Int):=by omega
   have s:(b:Int)-1-(j:Int)<64:=by omega
   clear d hB a;go_wp2_with fail;go_roundw;case rel=>exact⟨j+1,_,by omega,by go_num,Hi (q.o _),Hi (o.o _),Hi (r.o _)⟩
   case measure=>simp[intOf];omega
  .have u:=tU d.o rfl;go_wp2_with fail;go_ret;exact⟨⟨_,rfl,by rw[pn];exact a.o⟩,hB.o⟩
theorem yQ (v:Int)(b n:Nat)(h:n<=b)(g:b<=32)(w:Wq)(i:0<=v/\v<=9223372036854775807):Calls prog 366 #[I6 v,I6 b,I6 n] w (uE b w):=by
 have c1:=Hi (C5 v b n h g w i);have c2:=Hi λw'=>Fi (b-n) (by omega) w';have o:((b:Int)-(n:Int))=((b-n:Nat):Int):=by omega
 have l:Hid (n+(b-n)=b):=Hi (by omega);generalize b-n=d at*;go_enter func366,ntmps366;go_wp2_with(first|(go_at_call 290;refine c1.o.mono ?_;rintro e k ⟨⟨s,rfl,hs⟩,c⟩;have a:=Hi hs;have jn:=Hi c;have f:=Hi (c2.o k);clear hs c c1 c2)|(go_at_call 287;refine f.o.mono ?_;rintro e q ⟨⟨t,rfl,ht⟩,j8⟩;have m:=Hi ht;have j:=Hi (JK jn.o j8);have p:¬9223372036854775807<s.size+t.size:=(by have:=a.o;omega);clear ht j8));go_ret;exact⟨⟨_,rfl,by rw[aJ,a.o,m.o,l.o]⟩,j.o⟩
def mv (N b:Nat)(w:Wq)(e:Ending)(w':Wq):Prop:=∃v l,e=.returned v/\di w' w.heap.size v l/\(∀s∈l,s.size=b)/\l.length<=N/\JJ w w'
theorem tO (b:Nat)(lo hi:Int)(A:b<=32)(h0:0<=lo/\lo<=4294967296)(h1:hi<=4294967295)(R:-9223372036854775808<=hi)(w:Wq):Calls prog 328 #[I6 b,I6 lo,I6 hi] w (mv 8589934592 b w):=by
 have p:=Hi (aB w.heap.size w);have o:Hid (di w w.heap.size (.slice none 0 0) []):=Hi (dF _ _ _ _);obtain⟨N,O⟩:=h0;go_enter func328,ntmps328;go_wp2_with fail;go_loopw [1,7,8] (λu v _ wr=>∃(x:Int)(l:List Wz),u=I6 x/\lo+l.length<=x/\x<=8589934592/\Hid (di wr w.heap.size v l)/\Hid (∀s∈l,s.size=b)/\Hid (JJ w wr)) (λu _ _ _=>(hi+1-intOf u).toNat);case atStart=>exact⟨lo,[],rfl,by simp,by omega,o,Hi (by simp),p⟩
 case round=>
  obtain⟨x,l,rfl,U,W,m,n,i⟩:=hrel;clear o p;by_cases jm:x<=hi
  .obtain⟨G,rfl⟩:=Jv wr;go_wp2_with fail;go_loopw [8] (λf j=>j=G/\∃a:Nat,a<=b/\f=I6 a)(λf _=>b-(intOf f).toNat);case atStart=>exact⟨rfl,0,by omega,rfl⟩
   case round=>
    obtain⟨rfl,a,X,rfl⟩:=hrel;go_upto_region 4 with fail;go_cut[31] (λv j=>j=wr/\∃y:Bool,v=.bool y/\(y=true->a<b));case first=>
     by_cases q:a<b
     .have z:=Hi (AL ((a:Int)+1) (by omega) (by omega) wr);have ht:=jd (b:=(a:Int)+1) (by omega) (by omega);have E:(a:Int)<(b:Int):=by omega
      generalize ix ((a:Int)+1)=tp at*;go_wp2_with(go_at_call 289;refine z.o.mono ?_;rintro e w' ⟨rfl,rfl⟩);all_goals go_meet;exact⟨rfl,_,rfl,λ_=>q⟩
     .have E:¬(a:Int)<(b:Int):=by omega
      go_wp2_with fail;go_meet;exact⟨rfl,_,rfl,λh=>by cases h⟩
    case rest=>
    obtain⟨rfl,y,rfl,c⟩:=hcut;cases y;case true=>
     have q:=c rfl;clear c;go_wp2_with fail;go_roundw;case rel=>exact⟨by trivial,a+1,by omega,by go_num⟩
     case measure=>simp[intOf];omega
    clear c;have Q:(b:Int)-(a:Int)=((b-a:Nat):Int):=by omega
    have k:=Hi (yQ x b (b-a) (by omega) A wc ⟨by omega,by omega⟩);generalize b-a=d at*;have B:(1:Int)<=2^a/\(2:Int)^a<=4294967296:=by
     have h1:(0:Int)<2^a:=Int.pow_pos (by omega);have h2:(2:Nat)^a<=2^32:=oe (by omega) (by omega);have h3:((2:Nat)^a:Int)<=2^32:=by exact_mod_cast h2
     have P:(2:Int)^a<=4294967296:=by simpa using h3
     omega
    obtain⟨S,T⟩:=B;have z7:l.length<=8589934592:=by omega
    have K:=i.o.size;have V:(a:Int)<64:=by omega
    go_wp2_with(first|(go_at_call 366;refine k.o.mono ?_;rintro e F ⟨⟨s,rfl,hs⟩,g⟩;have C:=Hi hs;have jn:=Hi (i.o.t (g.mono K));have J:=Hi (lC m.o g Jq);have I:=jn.o.size;clear hs g k)|(at_builtin;refine kE lH rfl (.tmp 34) (.tmp 41) rfl w.heap.size l.length u7 _ rfl J.o F.heap.size rfl (.string s) rfl rfl (by omega) (by unfold maxLen;omega) I ?_;intro L Y Z r j8 _;have H:=Hi r;have D:=Hi (jn.o.t j8);clear r j8));go_roundw;case rel=>exact⟨_,l++[s],rfl,by simp;omega,by omega,Hi (by unfold di;simpa using H.o),Hi (λt ht=>by rcases List.mem_append.1 ht with h|h;exact n.o t h;simp only[dN,bG,jf]at h;rw[h];exact C.o),D⟩
    case measure=>simp only[intOf];omega
  .go_wp2_with fail;go_ret;exact⟨_,l,rfl,m.o,n.o,by omega,i.o⟩
structure Ng (t:eF)(b:Nat):Prop where
 b1:1<=b/\b<=32
 op:1<=t.op/\t.op<=6
 form:1<=t.form/\t.form<=4
 lo:0<=t.lo/\t.lo<=4294967295
 hi:0<=t.hi/\t.hi<=4294967295
 len:0<=t.len/\t.len<=b
 pat:t.form=4->t.pat.size=b
theorem RP {t:eF}{b:Nat}(c:1<=b/\b<=32)(h:BP t b=true):Ng t b:=by
 have ht:=jd (b:=(b:Int)) (by omega) (by omega);unfold BP at h;simp only[aS,bz,xB,bC,bX,Bool.not_eq_false']at h;obtain⟨⟨⟨⟨⟨⟨a1,d⟩,_⟩,e⟩,f⟩,g⟩,a⟩:=h;refine⟨c,by omega,by omega,by omega,by omega,by omega,λhf=>?_⟩;rcases a with a|a
 .exact absurd hf a
 .have:=a.1;omega
theorem Qz (t:eF)(b:Nat)(F:Ng t b)(w:Wq):Calls prog 361 #[.agg (fM t).toArray,I6 b] w (uE b w):=by
 obtain⟨W,g⟩:=Jj (w.alloc (.cells (fM t).toArray 44 (0,0)));have jk:=Hi (show JJ w W by exact Jk g);have c:=Hi (show et W w.heap.size t by rw[<-g];exact et.new w t);have o:=c.o.c2;have p:=c.o.c3;have j:=c.o.c5;have q:=c.o.c6;have jl:=jk.o.size;by_cases h4:t.form=4
 .have l:(t.form==4)=true:=by simp[h4]
  have i:=Hi (F.pat h4);clear h4;go_enter func361,ntmps361;go_wp2_with fail;go_ret;exact⟨⟨_,rfl,i.o⟩,jk.o⟩
 have l:(t.form==4)=false:=by simp[h4]
 by_cases h2:t.form=2
 .have m:(t.form==2)=true:=by simp[h2]
  obtain⟨n,h⟩:∃n:Nat,t.len=n:=⟨t.len.toNat,by have:=F.len;omega⟩;have d:=Hi (yQ t.lo b n (by have:=F.len;omega) F.b1.2 W ⟨F.lo.1,by have:=F.lo;omega⟩);rw[h]at j;clear h4 h2 h F;go_enter func361,ntmps361;go_wp2_with(go_at_call 366;refine d.o.mono ?_;rintro e k ⟨⟨s,rfl,hs⟩,a⟩;have f:=Hi hs;have jn:=Hi (jk.o.t (a.mono jl));clear hs a);go_ret;exact⟨⟨_,rfl,f.o⟩,jn.o⟩
 have m:(t.form==2)=false:=by simp[h2]
 have d:=Hi (yQ t.lo b b Jq F.b1.2 W ⟨F.lo.1,by have:=F.lo;omega⟩);clear h4 h2 F;go_enter func361,ntmps361;go_wp2_with(go_at_call 366;refine d.o.mono ?_;rintro e k ⟨⟨s,rfl,hs⟩,a⟩;have f:=Hi hs;have jn:=Hi (jk.o.t (a.mono jl));clear hs a);go_ret;exact⟨⟨_,rfl,f.o⟩,jn.o⟩
theorem sn {w:Wq}{a size n:Nat}{e:TypeId}{v:Value}{xs:List Value}(h:w.ownsRow a e size v n xs):∃A c,v=.slice A n c/\(0<n->∃g,A=some ⟨g,0,none⟩):=by
 rcases h.2 with⟨rfl,rfl⟩|⟨g,cap,b,rfl,_⟩
 .exact⟨none,0,rfl,λh=>absurd h (by omega)⟩
 .exact⟨_,cap,rfl,λ_=>⟨g,rfl⟩⟩
theorem Kb {w:Wq}{b g cap:Nat}{k:Int}{fs:List (Nat->Int)}(h:yq w b (.slice (some ⟨g,0,none⟩) fs.length cap) k fs){j:Nat}(d:j<fs.length):∃f,∀i,i<9->w.cell? ⟨g,j*9+i,none⟩=(aj k f)[i]?:=by
 refine⟨fs[j],λi hi=>?_⟩;have e:(aj k fs[j]).toList[i]?=(aj k fs[j])[i]?:=by simp
 obtain⟨u,a⟩:∃u,(aj k fs[j])[i]?=some u:=by
  have:i<(aj k fs[j]).size:=by simp[aj];omega
  exact⟨_,lR this⟩
 rw[a];have l:(⟨g,0,none⟩:Addr).add (j*9+i)=⟨g,j*9+i,none⟩:=by unfold Addr.add;split<;>simp_all
 rw[<-l];refine ai h (g:=g) rfl _ u ?_;exact iP 9 _ (λc a=>by obtain⟨f,_,rfl⟩:=List.mem_map.1 a;rfl) j i (aj k fs[j]).toList u (by simp[aF d]) (by rw[e,a])
theorem KP (t:eF)(b:Nat)(F:Ng t b)(hp:Sm t.pat)(w:Wq):Calls prog 327 #[.agg (fM t).toArray,I6 b] w (mv 17179869184 b w):=by
 obtain⟨W,X⟩:=Jj (w.alloc (.cells (fM t).toArray 44 (0,0)));have jk:=Hi (show JJ w W by exact Jk X);have k:=Hi (show et W w.heap.size t by rw[<-X];exact et.new w t);have q0:=k.o.c0;have Z:=k.o.c1;have q2:=k.o.c2;have q3:=k.o.c3;have q4:=k.o.c4;have q5:=k.o.c5;have q6:=k.o.c6;have jl:=jk.o.size;obtain⟨qy,d⟩:=F.b1;have vg:=F.lo;have vl:=F.hi;by_cases h3:t.form=3
 .have zn:(t.form==3)=true:=by simp[h3]
  by_cases h1:t.op=1
  .have vm:(t.op==1)=true:=by simp[h1]
   have cc:=Hi (tO b t.lo t.hi d ⟨vg.1,by omega⟩ vl.2 (by omega) W);clear h3 h1 F;go_enter func327,ntmps327;go_wp2_with(go_at_call 328;refine cc.o.mono ?_;rintro e D ⟨v,l,rfl,x,K,hl,d⟩;have hF:=Hi (show mv 17179869184 b w (.returned v) D from⟨v,l,rfl,Go.Joins.ownsRow_le x jl,K,aI hl (by decide),jk.o.t (d.mono jl)⟩);clear x K hl d);go_ret;exact hF.o
  .have vm:(t.op==1)=false:=by simp[h1]
   have ht:=jd (b:=(b:Int)) (by omega) (by omega);have J:Hid (∀w',Calls prog 289 #[I6 b] w' λe qw=>e=.returned (I6 (ix b))/\qw=w'):=Hi λw'=>(AL b (by omega) (by omega) w').mono λ_ _ h=>⟨h.1,h.2.symm⟩;have cA:=Hi λW=>tO b 0 (t.lo-1) d ⟨by omega,by omega⟩ (by omega) (by omega) W;have cB:=Hi λW=>tO b (t.hi+1) (ix b) d ⟨by omega,by omega⟩ (by omega) (by omega) W;generalize ix (b:Int)=tp at*;have w1:IntKind.i64.wrap (t.lo-1)=t.lo-1:=bu _ (by omega);have D:IntKind.i64.wrap (t.hi+1)=t.hi+1:=bu _ (by omega);have jm:=k.o.lt;have E:=Hi λn=>ar (aB W.heap.size W) n;clear h3 h1 F vg vl ht;go_enter func327,ntmps327;go_wp2_with fail;go_region_held3 (λW'=>W'.cell? ⟨w.heap.size,3,none⟩=some (I6 t.lo)/\W'.cell? ⟨w.heap.size,4,none⟩=some (I6 t.hi))(first|exact hHeld|go_keep|exact⟨(qo.cell (p:=⟨w.heap.size,3,none⟩) jm).t q3,(qo.cell (p:=⟨w.heap.size,4,none⟩) jm).t q4⟩|exact⟨(q.cell (p:=⟨w.heap.size,3,none⟩) jm).t q3,(q.cell (p:=⟨w.heap.size,4,none⟩) jm).t q4⟩)((first|(refine xO lH rfl (.tmp 27) (.tmp 34) rfl W.heap.size S.length vA (S.map .string) rfl C.o W.heap.size T.length vB (T.map .string) rfl vb.o (by intro u hu;obtain⟨y,_,rfl⟩:=List.mem_map.1 hu;rfl) (by omega) (by unfold maxLen;omega) q.size ?_;intro v9 w9 zm zx;have qo:=q.t zx)|(go_at_call 289;refine(J.o _).mono ?_;rintro e wt ⟨rfl,rfl⟩)|(have j9:=C;clear C;(with_reducible refine(cB.o _).mono ?_);rintro e wy ⟨vB,T,rfl,O,vs,z6,U⟩;have C:=Hi (lC j9.o U Jq);have vb:=Hi (Go.Joins.ownsRow_le O q.size);replace q:=(JK q U))|(have O:=vb;clear vb;(with_reducible refine(cA.o _).mono ?_);rintro e wy ⟨vA,S,rfl,j9,v5,zf,jy⟩;have vb:=Hi (lC O.o jy Jq);have C:=Hi (Go.Joins.ownsRow_le j9 q.size);replace q:=(JK q jy))|((with_reducible refine(cA.o _).mono ?_);rintro e wz ⟨vA,S,rfl,j9,v5,zf,jy⟩;have C:=Hi (Go.Joins.ownsRow_le j9 (E.o 1).size);have q:=(E.o 1).t (jy.mono (E.o 1).size))|((with_reducible refine(cB.o _).mono ?_);rintro e wz ⟨vB,T,rfl,O,vs,z6,U⟩;have vb:=Hi (Go.Joins.ownsRow_le O (E.o 1).size);have q:=(E.o 1).t (U.mono (E.o 1).size))));all_goals have hF:=Hi (show mv 17179869184 b w (.returned v9) w9 from⟨v9,S++T,rfl,Go.Joins.ownsRow_le (by simpa using zm) jl,λs hs=>(List.mem_append.1 hs).elim (v5 s) (vs s),by rw[aC];omega,jk.o.t (qo.mono jl)⟩);go_wp2_with fail;go_ret;exact hF.o
 have zn:(t.form==3)=false:=by simp[h3]
 have Q:=Hi (Qz t b F W);by_cases h1:t.op=1
 .have vm:(t.op==1)=true:=by simp[h1]
  clear h3 h1 F;go_enter func327,ntmps327;go_wp2_with(go_at_call 361;refine Q.o.mono ?_;rintro e D ⟨⟨s,rfl,hs⟩,d⟩;have Y:=Hi hs;have jn:=Hi (jk.o.t (d.mono jl));have Z:=(k.o.below d k.o.lt).c1;clear hs d Q);go_ret;exact⟨_,[s],rfl,⟨rfl,.inr ⟨D.heap.size,1,#[.string s],rfl,jn.o.size,aG D _,al _,by decide,rfl,rfl⟩⟩,by simp[Y.o],by simp,jn.o.alloc jn.o.size _⟩
 have vm:(t.op==1)=false:=by simp[h1]
 clear h3 h1 F;go_enter func327,ntmps327;go_upto_region 10 with(first|(go_at_call 361;refine Q.o.mono ?_;rintro e D ⟨⟨s,rfl,hs⟩,d⟩;have Y:=Hi hs;have jn:=Hi (jk.o.t (d.mono jl));have Z:=(k.o.below d k.o.lt).c1;have cp:=Hi (IG s D (by have:=Y.o;omega));clear hs d Q)|(go_at_call 362;refine cp.o.mono ?_;rintro e m ⟨R,a,rfl,j8⟩;simp only[aj];have G:=Hi (JK jn.o j8);have jy:=Hi λo=>G.o.alloc G.o.size o;clear j8 cp));obtain⟨P,V⟩:=Jj (m.alloc (.cells #[I6 R,.int .u64 (a 0),.int .u64 (a 1),.int .u64 (a 2),.int .u64 (a 3),.int .u64 (a 4),.int .u64 (a 5),.int .u64 (a 6),.int .u64 (a 7)] 387 (0,0)));rw[V];have hC:Hid (dY P m.heap.size R a):=Hi (Jy V);have I:Hid (JJ w P):=Hi (by rw[<-V];exact jy.o _);clear X jk k q0 Z q2 q3 q4 q5 q6 jy V vg vl jl;obtain⟨x0,x1,x2,x3,x4,x5,x6,x7,x8⟩:=gY hC.o;have jm:m.heap.size<P.heap.size:=(Array.getElem?_eq_some_iff.1 hC.o).1;go_cut[52,53,54] (λu n z wx=>z=I6 0/\∃g cap,∃fs:List (Nat->Int),u=.slice g fs.length cap/\n=I6 fs.length/\fs.length<=256/\Hid (yq wx 0 u b fs)/\Hid (JJ w wx));case first=>have ca:=Hi λW=>Nh b qy (by omega) W;have v1:=Hi λW f=>ID b (by omega) R f a W;simp only[aj]at v1;go_region_held3 (λW=>W.cell? ⟨m.heap.size,0,none⟩=some (I6 R)/\W.cell? ⟨m.heap.size,1,none⟩=some (.int .u64 (a 0))/\W.cell? ⟨m.heap.size,2,none⟩=some (.int .u64 (a 1))/\W.cell? ⟨m.heap.size,3,none⟩=some (.int .u64 (a 2))/\W.cell? ⟨m.heap.size,4,none⟩=some (.int .u64 (a 3))/\W.cell? ⟨m.heap.size,5,none⟩=some (.int .u64 (a 4))/\W.cell? ⟨m.heap.size,6,none⟩=some (.int .u64 (a 5))/\W.cell? ⟨m.heap.size,7,none⟩=some (.int .u64 (a 6))/\W.cell? ⟨m.heap.size,8,none⟩=some (.int .u64 (a 7)))(first|exact hHeld|go_keep|exact gY ((vv.block _ (bZ jm N.size)).t ((N.block _ jm).t hC.o))|exact gY ((N.block _ jm).t hC.o))((first|(go_at_call 364;refine(v1.o _ fa).mono ?_;rintro e wy ⟨v,fs,rfl,vy,H,vv⟩;obtain⟨A9,c9,rfl,_⟩:=sn H)|(go_at_call 363;refine(ca.o _).mono ?_;rintro e wz ⟨⟨fa,rfl⟩,N⟩;simp only[aj])));go_wp2_with fail;go_meet;exact⟨rfl,A9,c9,fs,rfl,rfl,vy,Hi (Go.Joins.ownsRow_le H (aK _)),Hi (I.o.t (((((aB P.heap.size P).drew).t N).t (vv.mono N.size)).mono I.o.size))⟩
 case rest=>
 obtain⟨rfl,g9,c9,fs,rfl,rfl,vy,H,qu⟩:=hcut;clear hC x0 x1 x2 x3 x4 x5 x6 x7 x8 jm I G jn;obtain⟨r,rfl⟩:=Jv wc;have q7:Hid (di r r.heap.size (.slice none 0 0) []):=Hi (dF _ _ _ _);have qs:=Hi (aB r.heap.size r);go_wp2_with fail;go_loopw [8,10,54] (λv _ i wr=>∃(j:Nat)(l:List Wz),j<=fs.length/\i=I6 j/\l.length=j/\Hid (di wr r.heap.size v l)/\Hid (∀s∈l,s.size=b)/\Hid (JJ r wr)) (λ_ _ i _=>fs.length-(intOf i).toNat);case atStart=>exact⟨0,[],by omega,rfl,rfl,q7,Hi (by simp),qs⟩
 case round=>
  obtain⟨j,l,hj,rfl,L,x,K,B⟩:=hrel;clear q7 qs;replace L:=Hi L;by_cases jm:j<fs.length
  .obtain⟨A,c,hv,hA⟩:=sn H.o;injection hv with v2 _ hv2;subst v2 hv2;obtain⟨g,rfl⟩:=hA (by omega);have z3:g<r.heap.size:=(H.o.lt g rfl).2;obtain⟨f,hf⟩:=Kb H.o jm;have e:∀i,i<9->wr.cell? ⟨g,j*9+i,none⟩=(aj b f)[i]?:=λi hi=>(B.o.cell (p:=⟨g,j*9+i,none⟩) z3).t (hf i hi);have x0:wr.cell? ⟨g,j*9,none⟩=some (I6 b):=e 0 (by omega);have x1:wr.cell? ⟨g,j*9+1,none⟩=some (.int .u64 (f 0)):=e 1 (by omega);have x2:wr.cell? ⟨g,j*9+2,none⟩=some (.int .u64 (f 1)):=e 2 (by omega);have x3:wr.cell? ⟨g,j*9+3,none⟩=some (.int .u64 (f 2)):=e 3 (by omega);have x4:wr.cell? ⟨g,j*9+4,none⟩=some (.int .u64 (f 3)):=e 4 (by omega);have x5:wr.cell? ⟨g,j*9+5,none⟩=some (.int .u64 (f 4)):=e 5 (by omega);have x6:wr.cell? ⟨g,j*9+6,none⟩=some (.int .u64 (f 5)):=e 6 (by omega);have x7:wr.cell? ⟨g,j*9+7,none⟩=some (.int .u64 (f 6)):=e 7 (by omega);have x8:wr.cell? ⟨g,j*9+8,none⟩=some (.int .u64 (f 7)):=e 8 (by omega);have J:=Hi λW=>K3 b (by omega) f W;simp only[aj]at J;have jy:=Hi λo=>B.o.alloc B.o.size o;have C:=Hi λo=>jQ x.o o;have hzr:=B.o.size;have z7:l.length<=256:=by have:=L.o;omega
   clear e hf x B hA;go_wp2_with(first|(go_at_call 365;refine(J.o _).mono ?_;rintro e w4 ⟨⟨s4,rfl,vt⟩,j8⟩;have z1:=Hi vt;have G:=Hi ((jy.o _).t (j8.mono (by simp;omega)));have z8:=Hi (lC (C.o _) j8 Jq);have zv:=G.o.size;clear vt j8 J)|(at_builtin;refine kE lH rfl (.tmp 58) (.tmp 61) rfl r.heap.size l.length u8 _ rfl z8.o w4.heap.size rfl (.string s4) rfl rfl (by omega) (by unfold maxLen;omega) zv ?_;intro g' vn w6 v6 I _;have z0:=Hi v6;have za:=Hi (G.o.t I);clear v6 I));go_roundw;case rel=>exact⟨j+1,l++[s4],by omega,by go_num,by have:=L.o;simp;omega,Hi (by unfold di;simpa using z0.o),Hi (λt ht=>by rcases List.mem_append.1 ht with h|h;exact K.o t h;simp only[dN,bG,jf]at h;rw[h];exact z1.o),za⟩
   case measure=>simp[intOf];omega
  .have hF:=Hi (show mv 17179869184 b w (.returned u8) wr from⟨_,l,rfl,Go.Joins.ownsRow_le x.o qu.o.size,K.o,by have:=L.o;omega,(JK qu.o B.o)⟩);clear x B;go_wp2_with fail;go_ret;exact hF.o
theorem KO (t:eF)(b:Nat)(F:Ng t b)(s:Sm t.pat)(w:Wq):Calls prog 292 #[.agg (fM t).toArray,I6 b] w (mv 17179869184 b w):=by
 obtain⟨W,m⟩:=Jj (w.alloc (.cells (fM t).toArray 44 (0,0)));have jk:=Hi (show JJ w W by exact Jk m);have g:=Hi (show et W w.heap.size t by rw[<-m];exact et.new w t);have x:=g.o.c3;have jl:=jk.o.size;obtain⟨J,a⟩:=F.b1;have K:=F.lo;have y:=F.op;go_enter func292,ntmps292;go_upto_region 1 with fail;go_cut[5,6] (λu v B=>u=I6 t.lo/\v=I6 t.lo/\Hid (∃n,B=W.drewN n));case first=>go_quiet(fail);go_wp2_with fail;go_meet;exact⟨rfl,rfl,Hi ⟨_,rfl⟩⟩
 case rest=>
 obtain⟨rfl,rfl,o⟩:=hcut;clear m x;replace jk:Hid (JJ w wc):=Hi (by obtain⟨n,rfl⟩:=o.o;exact ar jk.o n);replace g:Hid (et wc w.heap.size t):=Hi (by obtain⟨n,rfl⟩:=o.o;exact g.o);clear o jl;have jl:=jk.o.size;have E:=g.o.c0;have A:=g.o.c1;have G:=g.o.c2;have x:=g.o.c3;have q4:=g.o.c4;have H:=g.o.c5;have I:=g.o.c6;have p:=Hi λhi h1 h2=>tO b 0 hi a ⟨by omega,by omega⟩ h1 h2 wc;have r:=Hi (KP t b F s wc);have ht:=jd (b:=(b:Int)) (by omega) (by omega);have k:=Hi (AL (b:Int) (by omega) (by omega) wc);have q:=Hi λlo h1=>tO b lo (ix b) a h1 (by omega) (by omega) wc;generalize ix (b:Int)=tp at*;clear F s;by_cases h12:t.op=1\/t.op=2
 .have C:(t.op==1)=true\/((t.op==1)=false/\(t.op==2)=true):=by rcases h12 with h|h<;>simp[h]
  clear h12 y;rcases C with z|⟨z,D⟩;all_goals go_wp2_with(go_at_call 327;refine r.o.mono ?_;rintro e i ⟨v,l,rfl,c,d,f,a⟩;have hF:=Hi (show mv 17179869184 b w (.returned v) i from⟨v,l,rfl,Go.Joins.ownsRow_le c jl,d,f,jk.o.t (a.mono jl)⟩);clear c d f a);go_ret;exact hF.o
 obtain h|h|h|h:t.op=3\/t.op=4\/t.op=5\/t.op=6:=by omega
 all_goals rw[h]at A;clear h12 h y r
 .have j:=Hi (p.o (t.lo-1) (by omega) (by omega));go_wp2_with(first|(go_at_call 289;refine k.o.mono ?_;rintro e w' ⟨rfl,rfl⟩)|(go_at_call 328;refine j.o.mono ?_;rintro e i ⟨v,l,rfl,c,d,f,a⟩;have hF:=Hi (show mv 17179869184 b w (.returned v) i from⟨v,l,rfl,Go.Joins.ownsRow_le c jl,d,aI f (by decide),jk.o.t (a.mono jl)⟩);clear c d f a));go_ret;exact hF.o
 .have j:=Hi (p.o t.lo (by omega) (by omega));go_wp2_with(first|(go_at_call 289;refine k.o.mono ?_;rintro e w' ⟨rfl,rfl⟩)|(go_at_call 328;refine j.o.mono ?_;rintro e i ⟨v,l,rfl,c,d,f,a⟩;have hF:=Hi (show mv 17179869184 b w (.returned v) i from⟨v,l,rfl,Go.Joins.ownsRow_le c jl,d,aI f (by decide),jk.o.t (a.mono jl)⟩);clear c d f a));go_ret;exact hF.o
 .have j:=Hi (q.o (t.lo+1) ⟨by omega,by omega⟩);go_wp2_with(first|(go_at_call 289;refine k.o.mono ?_;rintro e w' ⟨rfl,rfl⟩)|(go_at_call 328;refine j.o.mono ?_;rintro e i ⟨v,l,rfl,c,d,f,a⟩;have hF:=Hi (show mv 17179869184 b w (.returned v) i from⟨v,l,rfl,Go.Joins.ownsRow_le c jl,d,aI f (by decide),jk.o.t (a.mono jl)⟩);clear c d f a));go_ret;exact hF.o
 .have j:=Hi (q.o t.lo ⟨by omega,by omega⟩);go_wp2_with(first|(go_at_call 289;refine k.o.mono ?_;rintro e w' ⟨rfl,rfl⟩)|(go_at_call 328;refine j.o.mono ?_;rintro e i ⟨v,l,rfl,c,d,f,a⟩;have hF:=Hi (show mv 17179869184 b w (.returned v) i from⟨v,l,rfl,Go.Joins.ownsRow_le c jl,d,aI f (by decide),jk.o.t (a.mono jl)⟩);clear c d f a));go_ret;exact hF.o
end Go.Proofs.YtgfgoaeaicefcaaGreatDoor
