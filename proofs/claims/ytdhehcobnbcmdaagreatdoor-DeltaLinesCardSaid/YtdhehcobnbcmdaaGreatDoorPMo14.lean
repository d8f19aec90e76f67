/- A part of the proof of DeltaLines: Mod14 Mod15. -/
import Derived.Test.YtdhehcobnbcmdaaGreatDoorPMo13
set_option linter.all false
namespace Go.Proofs.YtdhehcobnbcmdaaGreatDoor
open Go.RowKit Go.Maps
theorem any_name {l:List SliceS}{s:ByteArray}:(l.map SliceS.name).any (fun q=>decide (q=s))=l.any fun q=>decide (q.name=s):=by rw [List.any_map];rfl
theorem slice_form {w:World}{B:Nat}{c:List Value}{x:SliceS}(h:SliceC w B c x):∃ Ap cp Aw cw,c=[.string x.name, .slice Ap x.ports.length cp, .slice Aw x.whr.length cw]∧Sm x.name∧Texts w B (.slice Ap x.ports.length cp) x.ports∧Nodes w B (.slice Aw x.whr.length cw) x.whr:=by
  obtain ⟨vp,vm,h1,h2,h3,h4⟩:=h
  obtain ⟨Ap,cp,rfl,_,_⟩:=SlOf.form h3
  obtain ⟨Aw,cw,rfl,_,_⟩:=SlOf.form h4
  exact ⟨Ap,cp,Aw,cw,h1,h2,h3,h4⟩
set_option maxHeartbeats 8000000 in
set_option maxRecDepth 100000 in
theorem m_slices (c : ConfS) (vf vb vl vs : Value) (B : Nat) (w : World) (h : ConfC w B c vf vb vl vs) (hB : B ≤ w.heap.size) (E : Env w) (hlen : (fulls c.boxes).length ≤ 1000) :
    Calls Tryz.prog 27 #[.agg (confV c vf vb vl vs)] w (EPost (slicesB c) w):=by
  have hl47:c.slices.length≤140737488355328:=by obtain ⟨_,_,_,_,h⟩:=SlOf.form h.s;exact h.2
  obtain ⟨Af,cf,Ab,cb,Al,cl,As,cs,rfl,rfl,rfl,rfl⟩:=conf_form h
  obtain ⟨W0,hW0⟩:∃ W0,w.alloc (confO c (.slice Af c.fields.length cf) (.slice Ab c.boxes.length cb) (.slice Al c.links.length cl) (.slice As c.slices.length cs))=W0:=⟨_,rfl⟩
  have hb0:=Lib.hid (show Below w.heap.size w W0 by rw [← hW0];exact (Below.refl _ _).alloc (Nat.le_refl _) _)
  have hX:W0.heap[w.heap.size]?=some (confO c (.slice Af c.fields.length cf) (.slice Ab c.boxes.length cb) (.slice Al c.links.length cl) (.slice As c.slices.length cs)):=by rw [← hW0];exact heap_alloc_new w _
  have hlt0:w.heap.size<W0.heap.size:=by rw [← hW0];simp
  have hcx:=Lib.hid fun W (hb:Below W0.heap.size W0 W)=>conf_cells ((hb.block _ hlt0).trans hX)
  have hbz:=Lib.hid fun W (hb:Below W0.heap.size W0 W)=>hb0.out.trans (hb.mono (Nat.le_of_lt hlt0))
  have cN:=Lib.hid (m_numbered c _ _ _ _ w.heap.size W0 (h.below hb0.out hB) (Nat.le_of_lt hlt0) hlen)
  have hLx:=Lib.hid fun W (hb:Below w.heap.size w W)=>h.s.keep (w':=W) hB (keepB hb hB) fun _ _ h=>h.keep hB (keepB hb hB)
  have hFx:=Lib.hid fun W (hb:Below w.heap.size w W)=>Fields.below h.f hb hB
  have hmm:=@run_makeMap Tryz.prog
  obtain ⟨x0,x1,x2,x3,x4,x5,x6⟩:=conf_cells hX
  have HR0:Hid (slicesB c=eachB (sliceB c) (c.slices.take 0) (c.slices.drop 0)):=Lib.hid rfl
  generalize slicesB c=R at *
  replace E:=Lib.hid E
  clear h hX
  go_enter Tryz.func27,Tryz.ntmps27
  go_upto_region 3 with (go_at_call 60;refine cN.out.mono ?_;rintro e w2 ⟨A,cap,p,rfl,hp,hr,hm,hb2⟩;have hp':=Lib.hid hp;have hm':=Lib.hid hm;have hb2':=Lib.hid hb2;have y6:=(hcx.out _ (hb2.trans (((Below.refl w2.heap.size w2).alloc (Nat.le_refl _) (.map #[] 0)).mono hb2.size))).2.2.2.2.2.2;clear hp hr hm hb2)
  have hb3:=Lib.hid ((Below.refl w2.heap.size w2).alloc (Nat.le_refl _) (.map #[] 0))
  have hS0:Hid (SetIs (w2.alloc (.map #[] 0)) w2.heap.size 0 ((c.slices.take 0).map SliceS.name)):=Lib.hid (SetIs.new w2)
  have hpl:Hid (p.length≤1000):=Lib.hid (by have:=congrArg List.length hp'.out;simp only [List.length_map] at this;omega)
  have hbW:=Lib.hid fun W (hb:Below w2.heap.size w2 W)=>hb2'.out.trans (hb.mono hb2'.out.size)
  have hMk:=Lib.hid fun W (hb:Below w2.heap.size w2 W)=>hm'.out.below hb hm'.out.lt
  clear hW0 x0 x1 x2 x3 x4 x5 x6 hp' cN
  go_wp2_with fail
  clear y6
  go_loopw [27] (fun i wr=>∃ k:Nat,k≤c.slices.length∧i=.int .i64 k∧Hid (R=eachB (sliceB c) (c.slices.take k) (c.slices.drop k))∧Hid (SetIs wr w2.heap.size k ((c.slices.take k).map SliceS.name))∧Hid (Below w2.heap.size w2 wr)) (fun i _=>c.slices.length-(intOf i).toNat)
  case atStart=>exact ⟨0,Nat.zero_le _,rfl,HR0,hS0,hb3⟩
  case round=>
    obtain ⟨k,hk,rfl,HR,hS,hbw⟩:=hrel
    obtain ⟨wo,rfl⟩:∃ wo,wo=wr:=⟨_,rfl⟩
    clear HR0 hS0 hb3
    by_cases hlt:k<c.slices.length
    · have hBw:=hLx.out _ (hbz.out _ (hbW.out _ hbw.out))
      obtain ⟨b,off,rfl⟩:=SlOf.addr hBw (by omega)
      obtain ⟨_,cc,x,hx,hc,hj⟩:=SlOf.el hBw hlt
      obtain ⟨Ap,cp,Aw,cw,rfl,hxn,hti,hnd⟩:=slice_form hc
      have e0:wo.cell? ⟨b,off+k*3,none⟩=_:=hj 0 _ rfl
      have e1:=hj 1 _ rfl
      have e2:=hj 2 _ rfl
      have HS:Hid (R=(goodN x.name && !(((c.slices.take k).map SliceS.name).any fun q=>decide (q=x.name)) && knownB (numsT c) [] x.ports && okE c.fields x.whr && eachB (sliceB c) (c.slices.take (k+1)) (c.slices.drop (k+1)))):=Lib.hid (by rw [HR.out,each_drop hx,any_name];rfl)
      have cn:=Lib.hid fun W=>m_good x.name W hxn
      have hlw:Hid (w2.heap.size<wo.heap.size):=Lib.hid hS.out.lt
      have hxs:x.name.size≤1000000000000000:=by unfold Sm at hxn;omega
      have hpl47:=hti.len
      have hcap:x.ports.length≤cp:=by obtain ⟨_,_,h,h1,_⟩:=SlOf.form hti;injection h with _ _ h;subst h;exact h1
      clear hj hBw hc HR
      have hti':=Lib.hid hti
      have hnd':=Lib.hid hnd
      have hkw:=Lib.hid (keepB (hbz.out _ (hbW.out _ hbw.out)) (Nat.le_refl _))
      clear hti hnd
      cases h1:goodN x.name
      · have HF:=Lib.hid (show R=false by rw [HS.out,h1];rfl)
        rw [h1] at cn
        have hbF:=Lib.hid fun o n=>below_drewN (hbz.out _ (hbW.out _ (hbw.out.alloc (Nat.le_of_lt hlw.out) o))) n
        clear HS hS
        go_upto_region 7 with (go_at_call 57;refine (cn.out _).mono ?_;rintro e w5 ⟨rfl,rfl⟩)
        go_quiet (fail)
        go_wp2_with fail
        go_ret2
        exact e_bad HF.out (by decide) (hbF.out _ _)
      cases h2:((c.slices.take k).map SliceS.name).any fun q=>decide (q=x.name)
      case true=>
        have HF:=Lib.hid (show R=false by rw [HS.out,h1,h2];rfl)
        rw [h1] at cn
        replace h2:=Lib.hid h2
        have hbF:=Lib.hid fun o n=>below_drewN (hbz.out _ (hbW.out _ (hbw.out.alloc (Nat.le_of_lt hlw.out) o))) n
        have hSA:=Lib.hid fun o=>hS.out.below ((Below.refl wo.heap.size wo).alloc (Nat.le_refl _) o) hlw.out
        clear HS
        go_upto_region 10 with (first
          | (go_at_call 57;refine (cn.out _).mono ?_;rintro e w5 ⟨rfl,rfl⟩)
          | (at_lookup;refine set_look (hSA.out _) rfl _ _ rfl rfl x.name rfl hxs ?_;intro c9;rw [h2.out]))
        go_quiet (fail)
        go_wp2_with fail
        go_ret2
        exact e_bad HF.out (by decide) (hbF.out _ _)
      obtain ⟨l,hl⟩:∃ l,x.ports=l:=⟨_,rfl⟩
      obtain ⟨Rest,hRest⟩:∃ Rest,eachB (sliceB c) (c.slices.take (k+1)) (c.slices.drop (k+1))=Rest:=⟨_,rfl⟩
      replace HS:Hid (R=(knownB (numsT c) (l.take 0) (l.drop 0) && (okE c.fields x.whr && Rest))):=Lib.hid (by rw [HS.out,h1,h2,hl,hRest];simp [Bool.and_assoc])
      rw [h1] at cn
      have ht:=Lib.hid (map_take_snoc (f:=SliceS.name) hx)
      replace h2:=Lib.hid h2
      replace hRest:=Lib.hid hRest
      have hkb:k≤1000000000000000:=by omega
      have hSA:=Lib.hid fun o=>hS.out.below ((Below.refl wo.heap.size wo).alloc (Nat.le_refl _) o) hlw.out
      clear hx hS
      obtain ⟨bx,hbx⟩:∃ bx,Obj.cells #[.string x.name, .slice Ap x.ports.length cp, .slice Aw x.whr.length cw] 69 (0,0)=bx:=⟨_,rfl⟩
      have hXb:=Lib.hid (heap_alloc_new wo bx)
      have hbW1:=Lib.hid (hbw.out.alloc (Nat.le_of_lt hlw.out) bx)
      replace hSA:=Lib.hid (hSA.out bx)
      subst hbx
      rw [hl] at hti' hpl47 hcap hSA hXb hbW1 e1
      go_upto_region 13 with (first
        | (go_at_call 57;refine (cn.out _).mono ?_;rintro e w5 ⟨rfl,rfl⟩)
        | (at_lookup;refine set_look hSA.out rfl _ _ rfl rfl x.name rfl hxs ?_;intro c9;rw [h2.out])
        | (at_mapUpdate;(refine set_put hSA.out rfl _ _ _ rfl rfl x.name rfl hxs hkb _ rfl (by omega) ?_;intro w3 hS3 hg3;rw [← ht.out] at hS3;have hS3':=Lib.hid hS3;have hbw3:=Lib.hid (hbW1.out.trans (below_grow w2.heap.size hg3 (Nat.le_trans (Nat.le_of_lt hlw.out) (by simp))));have hX3:=Lib.hid ((hg3.block wo.heap.size (by simp) (by intro e;injection e with e;have:=hlw.out;omega)).trans hXb.out);clear hS3 hg3 hSA)))
      have hwl:Hid (wo.heap.size<w3.heap.size):=Lib.hid (Array.getElem?_eq_some_iff.1 hX3.out).1
      obtain ⟨W3,hW3⟩:∃ W3,w3.alloc (.map #[] 0)=W3:=⟨_,rfl⟩
      have hz3:=Lib.hid (show W3.heap.size=w3.heap.size+1 by rw [← hW3];simp)
      have hbm:=Lib.hid (show Below w3.heap.size w3 W3 by rw [← hW3];exact (Below.refl _ _).alloc (Nat.le_refl _) _)
      have hSm0:Hid (SetIs W3 w3.heap.size 0 (l.take 0)):=Lib.hid (by rw [← hW3];exact SetIs.new w3)
      have hcb:=Lib.hid fun W (hb:Below w3.heap.size w3 W)=>cells3' ((hb.block _ hwl.out).trans hX3.out)
      obtain ⟨y0,y1,y2⟩:=hcb.out _ hbm.out
      have hlw3:Hid (w2.heap.size<w3.heap.size):=Lib.hid (by have:=hlw.out;have:=hwl.out;omega)
      have hbI:=Lib.hid fun W (hb:Below w3.heap.size w3 W)=>hbw3.out.trans (hb.mono (Nat.le_of_lt hlw3.out))
      rw [hW3]
      clear hW3 e0 e1 e2
      go_wp2_with fail
      clear y0 y1 y2
      go_loopw [56] (fun i wr=>∃ j:Nat,j≤l.length∧i=.int .i64 j∧Hid (R=(knownB (numsT c) (l.take j) (l.drop j) && (okE c.fields x.whr && Rest)))∧Hid (SetIs wr w3.heap.size j (l.take j))∧Hid (Below w3.heap.size w3 wr)) (fun i _=>l.length-(intOf i).toNat)
      case atStart=>exact ⟨0,Nat.zero_le _,rfl,HS,hSm0,hbm⟩
      case round=>
        obtain ⟨j,hj,rfl,HRj,hSj,hbj⟩:=hrel
        obtain ⟨wi,rfl⟩:∃ wi,wi=wr:=⟨_,rfl⟩
        clear HS hSm0 hbm hz3
        have hbo:=Lib.hid (hbz.out _ (hbW.out _ (hbI.out _ hbj.out)))
        have hkx:=Lib.hid fun b o (h:b<w.heap.size)=>(keepB hbo.out (Nat.le_refl _) b o h).trans (hkw.out b o h).symm
        by_cases hjl:j<l.length
        · have htw:=hti'.out.keep (Nat.le_refl _) hkx.out
          obtain ⟨bp,op,rfl⟩:=SlOf.addr htw (by omega)
          obtain ⟨_,p',hp,hs5,e0⟩:=texts_el htw hjl
          have HSj:Hid (R=((numsT c p').isSome && !((l.take j).any fun q=>decide (q=p')) && knownB (numsT c) (l.take (j+1)) (l.drop (j+1)) && (okE c.fields x.whr && Rest))):=Lib.hid (by rw [HRj.out,drop_at hp,take_snoc hp];rfl)
          have ht5:=Lib.hid (take_snoc hp)
          have hjb:j≤1000000000000000:=by omega
          have hs6:p'.size≤1000000000000000:=by omega
          have hM5:=Lib.hid (hMk.out _ (hbI.out _ hbj.out))
          clear HRj htw hp
          cases g1:numsT c p' with
          | none =>
            have HF:=Lib.hid (show R=false by rw [HSj.out,g1];rfl)
            replace g1:=Lib.hid g1
            clear HSj
            go_wp2_with (at_lookup;refine map_look hM5.out rfl _ _ rfl rfl p' rfl hs6 ?_;intro c9 _;rw [g1.out])
            go_ret2
            exact e_bad HF.out (by decide) hbo.out
          | some kk =>
            obtain ⟨hk0,hk1⟩:=numsT_lt g1
            cases g2:(l.take j).any fun q=>decide (q=p')
            case true=>
              have HF:=Lib.hid (show R=false by rw [HSj.out,g1,g2];rfl)
              replace g1:=Lib.hid g1
              replace g2:=Lib.hid g2
              clear HSj
              go_wp2_with (first
                | (at_lookup;refine map_look hM5.out rfl _ _ rfl rfl p' rfl hs6 ?_;intro c9 _;rw [g1.out];clear hM5)
                | (at_lookup;refine set_look hSj.out rfl _ _ rfl rfl p' rfl hs6 ?_;intro c8;rw [g2.out]))
              go_ret2
              exact e_bad HF.out (by decide) hbo.out
            have HF:=Lib.hid (show R=(knownB (numsT c) (l.take (j+1)) (l.drop (j+1)) && (okE c.fields x.whr && Rest)) by rw [HSj.out,g1,g2];rfl)
            replace g1:=Lib.hid g1
            replace g2:=Lib.hid g2
            have hkb9 : -9223372036854775808≤kk∧kk≤9223372036854775807:=by omega
            clear HSj hk0 hk1
            go_wp2_with (first
              | (at_lookup;refine map_look hM5.out rfl _ _ rfl rfl p' rfl hs6 ?_;intro c9 hc9;obtain rfl:=hc9 kk g1.out;rw [g1.out];clear hM5 hc9)
              | (at_lookup;refine set_look hSj.out rfl _ _ rfl rfl p' rfl hs6 ?_;intro c8;rw [g2.out])
              | (at_mapUpdate;(refine set_put hSj.out rfl _ _ _ rfl rfl p' rfl hs6 hjb c9 rfl hkb9 ?_;intro w7 hS7 hg7;rw [← ht5.out] at hS7;have hS8:=Lib.hid hS7;have hb8:=Lib.hid (hbj.out.trans (below_grow w3.heap.size hg7 hbj.out.size));clear hS7 hg7)))
            go_roundw
            case rel=>exact ⟨j+1,by omega,by go_num,HF,hS8,hb8⟩
            case measure=>simp [intOf];omega
        · have HF:=Lib.hid (show R=(okE c.fields x.whr && Rest) by rw [HRj.out,drop_end hjl];rfl)
          clear HRj hSj
          obtain ⟨y0,_,y2⟩:=hcb.out _ hbj.out
          obtain ⟨_,q1,_,_,_,_,_⟩:=hcx.out _ (hbW.out _ (hbI.out _ hbj.out))
          have cx:=Lib.hid (x_Check c.fields x.whr _ _ w.heap.size wi (hFx.out _ hbo.out) (pureSl hnd'.out (Nat.le_refl _) hkx.out) hbo.out.size (E.out.below hbo.out))
          have hb9:=Lib.hid fun W (hb:Below wi.heap.size wi W)=>hbj.out.trans (hb.mono hbj.out.size)
          cases g3:okE c.fields x.whr
          · rw [g3] at cx
            have HF2:=Lib.hid (show R=false by rw [HF.out,g3];rfl)
            have hbF:=Lib.hid fun W (hb:Below wi.heap.size wi W) n=>below_drewN (hbz.out _ (hbW.out _ (hbI.out _ (hb9.out W hb)))) n
            clear HF g3
            go_upto_region 25 with (go_at_call 62;refine cx.out.mono ?_;intro e w7 hp7;obtain ⟨k7,rfl,hk0,hk1,hb7⟩:=code_no hp7;obtain ⟨t0,_,_⟩:=hcb.out _ (hb9.out _ hb7);have hb8:=Lib.hid (hbF.out _ hb7);clear hb7 hp7)
            go_quiet (fail)
            go_wp2_with fail
            go_ret2
            exact e_bad HF2.out (by decide) (hb8.out _)
          · rw [g3] at cx
            have HF2:=Lib.hid (show R=Rest by rw [HF.out,g3];rfl)
            have hbF:=Lib.hid fun W (hb:Below wi.heap.size wi W)=>hbI.out _ (hb9.out W hb)
            have hSF:=Lib.hid fun W (hb:Below wi.heap.size wi W)=>hS3'.out.below (hb9.out W hb) hlw3.out
            clear HF g3
            go_wp2_with (go_at_call 62;refine cx.out.mono ?_;intro e w7 hp7;obtain ⟨rfl,hb7⟩:=code_yes hp7;have hb8:=Lib.hid (hbF.out _ hb7);have hS8:=Lib.hid (hSF.out _ hb7);clear hb7 hp7)
            go_roundw
            case rel=>exact ⟨k+1,by omega,by go_num,Lib.hid (by rw [HF2.out,hRest.out]),hS8,hb8⟩
            case measure=>simp [intOf];omega
    · have HF:Hid (R=true):=Lib.hid (by rw [HR.out,drop_end hlt];rfl)
      have hbF:=Lib.hid (hbz.out _ (hbW.out _ hbw.out))
      clear HR
      go_wp2_with fail
      go_ret2
      exact e_ok HF.out hbF.out
theorem head_okF {c:ConfS}(h:headB c=true):okF c.fields=true:=by
  unfold headB at h
  simp only [Bool.and_eq_true] at h
  exact h.1.1.2
theorem head_rt {c:ConfS}(h:headB c=true):¬ c.routing=ByteArray.empty→0≤findF c.fields c.routing:=by
  intro h0
  unfold headB at h
  simp only [Bool.and_eq_true,Bool.not_eq_true',Bool.or_eq_false_iff] at h
  have h1:=h.2.1
  rw [decide_eq_false h0] at h1
  have h2:decide (findF c.fields c.routing<0)=false:=by simpa using h1
  have:=of_decide_eq_false h2
  omega
theorem counts_len {c:ConfS}(h:countsB c=true):(fulls c.boxes).length≤1000:=by
  unfold countsB at h
  have h1:=(of_decide_eq_true h).2.1
  have:=nPorts_sum c.boxes
  omega
theorem check_parts (c:ConfS):checkS c=(headB c && countsB c && namesB c && deedsB c && linksB c && slicesB c):=rfl
theorem cells6 {w:World}{g:Nat}{x0 x1 x2 x3 x4 x5:Value}{t:TypeId}{fr:Nat×Nat}(h:w.heap[g]?=some (.cells #[x0,x1,x2,x3,x4,x5] t fr)) :
    w.cell? ⟨g,0,none⟩=some x0∧w.cell? ⟨g,1,none⟩=some x1∧w.cell? ⟨g,2,none⟩=some x2∧w.cell? ⟨g,3,none⟩=some x3∧w.cell? ⟨g,4,none⟩=some x4∧w.cell? ⟨g,5,none⟩=some x5:=by
  refine ⟨?_,?_,?_,?_,?_,?_⟩<;>rw [cell_of_row w g _ _ t fr h]<;>rfl
set_option maxHeartbeats 8000000 in
set_option maxRecDepth 100000 in
theorem m_Check (c:ConfS)(vf vb vl vs:Value)(B:Nat)(w:World)(h:ConfC w B c vf vb vl vs)(hB:B≤w.heap.size)(E:Env w)(hwf:WfC c) :
    Calls Tryz.prog 8 #[.agg (confV c vf vb vl vs)] w (EPost (checkS c) w):=by
  obtain ⟨Af,cf,Ab,cb,Al,cl,As,cs,rfl,rfl,rfl,rfl⟩:=conf_form h
  obtain ⟨W0,hW0⟩:∃ W0,w.alloc (confO c (.slice Af c.fields.length cf) (.slice Ab c.boxes.length cb) (.slice Al c.links.length cl) (.slice As c.slices.length cs))=W0:=⟨_,rfl⟩
  have hz0:W0.heap.size=w.heap.size+1:=by rw [← hW0];simp
  have hb00:Below w.heap.size w W0:=by rw [← hW0];exact (Below.refl _ _).alloc (Nat.le_refl _) _
  have hX:W0.heap[w.heap.size]?=some (confO c (.slice Af c.fields.length cf) (.slice Ab c.boxes.length cb) (.slice Al c.links.length cl) (.slice As c.slices.length cs)):=by rw [← hW0];exact heap_alloc_new w _
  obtain ⟨W1,hW1⟩:∃ W1,W0.alloc (.cells #[.func (.func 22) #[] #[], .func (.func 23) #[] #[], .func (.func 24) #[] #[], .func (.func 25) #[] #[], .func (.func 26) #[] #[], .func (.func 27) #[] #[]] 54 (0,0))=W1:=⟨_,rfl⟩
  have hz1:W1.heap.size=w.heap.size+2:=by rw [← hW1];simp [hz0]
  have hb01:Below W0.heap.size W0 W1:=by rw [← hW1];exact (Below.refl _ _).alloc (Nat.le_refl _) _
  have hY:W1.heap[w.heap.size+1]?=some (.cells #[.func (.func 22) #[] #[], .func (.func 23) #[] #[], .func (.func 24) #[] #[], .func (.func 25) #[] #[], .func (.func 26) #[] #[], .func (.func 27) #[] #[]] 54 (0,0)):=by rw [← hz0,← hW1];exact heap_alloc_new W0 _
  have hbz:=Lib.hid fun W (hb:Below W1.heap.size W1 W)=>(hb00.trans (hb01.mono (by omega))).trans (hb.mono (by omega:w.heap.size≤W1.heap.size))
  have hcx:=Lib.hid fun W (hb:Below W1.heap.size W1 W)=>conf_cells ((hb.block w.heap.size (by omega)).trans ((hb01.block w.heap.size (by omega)).trans hX))
  have hcf:=Lib.hid fun W (hb:Below W1.heap.size W1 W)=>cells6 ((hb.block (w.heap.size+1) (by omega)).trans hY)
  have hC:=Lib.hid fun W (hb:Below W1.heap.size W1 W)=>h.below (hbz.out W hb) hB
  have hb1:=Lib.hid (Below.refl W1.heap.size W1)
  obtain ⟨x0,x1,x2,x3,x4,x5,x6⟩:=hcx.out _ hb1.out
  obtain ⟨f0,_,_,_,_,_⟩:=hcf.out _ hb1.out
  have hR:=Lib.hid (check_parts c)
  generalize checkS c=R at *
  replace E:=Lib.hid E
  replace hwf:=Lib.hid hwf
  clear h hX hY hb00 hb01 hz1
  go_enter Tryz.func8,Tryz.ntmps8
  go_wp2_with fail
  clear hW0 hW1 hz0
  refine wp_loop_rounds 7 ?_
  have c0:=Lib.hid ((fun W hb=>m_head c _ _ _ _ w.heap.size W (hC.out W hb) (hbz.out W hb).size) W1 hb1.out:Calls Tryz.prog 22 _ W1 (EPost (headB c) W1))
  have hbn0:=Lib.hid fun W (hb:Below W1.heap.size W1 W)=>hb1.out.trans (hb.mono hb1.out.size)
  cases g0:headB c
  · have HF:=Lib.hid (show R=false by rw [hR.out,g0];rfl)
    rw [g0] at c0
    rw [rounds_succ]
    go_wp2_with (go_at_call 22;refine c0.out.mono ?_;intro e w2 hp;obtain ⟨k,s,rfl,hk0,hk1,hb9⟩:=e_no hp;have hb8:=Lib.hid (hbz.out _ (hbn0.out _ hb9));replace hk0:=Lib.hid hk0;clear hb9 hp)
    go_ret2
    exact e_bad HF.out hk0.out hb8.out
  rw [g0] at c0
  rw [rounds_succ]
  go_wp2_with (go_at_call 22;refine c0.out.mono ?_;intro e w2 hp;obtain ⟨s0,rfl,hb9⟩:=e_yes hp;have hb2:=Lib.hid (hbn0.out _ hb9);clear hb9 hp c0 f0 x0 x1 x2 x3 x4 x5 x6;obtain ⟨_,f1,_,_,_,_⟩:=hcf.out _ hb2.out;obtain ⟨x0,x1,x2,x3,x4,x5,x6⟩:=hcx.out _ hb2.out)
  have c1:=Lib.hid ((fun W hb=>m_counts c _ _ _ _ w.heap.size W (hC.out W hb) (hbz.out W hb).size) w2 hb2.out:Calls Tryz.prog 23 _ w2 (EPost (countsB c) w2))
  have hbn1:=Lib.hid fun W (hb:Below w2.heap.size w2 W)=>hb2.out.trans (hb.mono hb2.out.size)
  cases g1:countsB c
  · have HF:=Lib.hid (show R=false by rw [hR.out,g0,g1];rfl)
    rw [g1] at c1
    rw [rounds_succ]
    go_wp2_with (go_at_call 23;refine c1.out.mono ?_;intro e w3 hp;obtain ⟨k,s,rfl,hk0,hk1,hb9⟩:=e_no hp;have hb8:=Lib.hid (hbz.out _ (hbn1.out _ hb9));replace hk0:=Lib.hid hk0;clear hb9 hp)
    go_ret2
    exact e_bad HF.out hk0.out hb8.out
  rw [g1] at c1
  rw [rounds_succ]
  go_wp2_with (go_at_call 23;refine c1.out.mono ?_;intro e w3 hp;obtain ⟨s1,rfl,hb9⟩:=e_yes hp;have hb3:=Lib.hid (hbn1.out _ hb9);clear hb9 hp c1 f1 x0 x1 x2 x3 x4 x5 x6;obtain ⟨_,_,f2,_,_,_⟩:=hcf.out _ hb3.out;obtain ⟨x0,x1,x2,x3,x4,x5,x6⟩:=hcx.out _ hb3.out)
  have c2:=Lib.hid ((fun W hb=>m_names c _ _ _ _ w.heap.size W (hC.out W hb) (hbz.out W hb).size) w3 hb3.out:Calls Tryz.prog 24 _ w3 (EPost (namesB c) w3))
  have hbn2:=Lib.hid fun W (hb:Below w3.heap.size w3 W)=>hb3.out.trans (hb.mono hb3.out.size)
  cases g2:namesB c
  · have HF:=Lib.hid (show R=false by rw [hR.out,g0,g1,g2];rfl)
    rw [g2] at c2
    rw [rounds_succ]
    go_wp2_with (go_at_call 24;refine c2.out.mono ?_;intro e w4 hp;obtain ⟨k,s,rfl,hk0,hk1,hb9⟩:=e_no hp;have hb8:=Lib.hid (hbz.out _ (hbn2.out _ hb9));replace hk0:=Lib.hid hk0;clear hb9 hp)
    go_ret2
    exact e_bad HF.out hk0.out hb8.out
  rw [g2] at c2
  rw [rounds_succ]
  go_wp2_with (go_at_call 24;refine c2.out.mono ?_;intro e w4 hp;obtain ⟨s2,rfl,hb9⟩:=e_yes hp;have hb4:=Lib.hid (hbn2.out _ hb9);clear hb9 hp c2 f2 x0 x1 x2 x3 x4 x5 x6;obtain ⟨_,_,_,f3,_,_⟩:=hcf.out _ hb4.out;obtain ⟨x0,x1,x2,x3,x4,x5,x6⟩:=hcx.out _ hb4.out)
  have c3:=Lib.hid ((fun W hb=>m_deeds c _ _ _ _ w.heap.size W (hC.out W hb) (hbz.out W hb).size (E.out.below (hbz.out W hb)) hwf.out (head_okF g0) (head_rt g0)) w4 hb4.out:Calls Tryz.prog 25 _ w4 (EPost (deedsB c) w4))
  have hbn3:=Lib.hid fun W (hb:Below w4.heap.size w4 W)=>hb4.out.trans (hb.mono hb4.out.size)
  cases g3:deedsB c
  · have HF:=Lib.hid (show R=false by rw [hR.out,g0,g1,g2,g3];rfl)
    rw [g3] at c3
    rw [rounds_succ]
    go_wp2_with (go_at_call 25;refine c3.out.mono ?_;intro e w5 hp;obtain ⟨k,s,rfl,hk0,hk1,hb9⟩:=e_no hp;have hb8:=Lib.hid (hbz.out _ (hbn3.out _ hb9));replace hk0:=Lib.hid hk0;clear hb9 hp)
    go_ret2
    exact e_bad HF.out hk0.out hb8.out
  rw [g3] at c3
  rw [rounds_succ]
  go_wp2_with (go_at_call 25;refine c3.out.mono ?_;intro e w5 hp;obtain ⟨s3,rfl,hb9⟩:=e_yes hp;have hb5:=Lib.hid (hbn3.out _ hb9);clear hb9 hp c3 f3 x0 x1 x2 x3 x4 x5 x6;obtain ⟨_,_,_,_,f4,_⟩:=hcf.out _ hb5.out;obtain ⟨x0,x1,x2,x3,x4,x5,x6⟩:=hcx.out _ hb5.out)
  have c4:=Lib.hid ((fun W hb=>m_links c _ _ _ _ w.heap.size W (hC.out W hb) (hbz.out W hb).size (counts_len g1)) w5 hb5.out:Calls Tryz.prog 26 _ w5 (EPost (linksB c) w5))
  have hbn4:=Lib.hid fun W (hb:Below w5.heap.size w5 W)=>hb5.out.trans (hb.mono hb5.out.size)
  cases g4:linksB c
  · have HF:=Lib.hid (show R=false by rw [hR.out,g0,g1,g2,g3,g4];rfl)
    rw [g4] at c4
    rw [rounds_succ]
    go_wp2_with (go_at_call 26;refine c4.out.mono ?_;intro e w6 hp;obtain ⟨k,s,rfl,hk0,hk1,hb9⟩:=e_no hp;have hb8:=Lib.hid (hbz.out _ (hbn4.out _ hb9));replace hk0:=Lib.hid hk0;clear hb9 hp)
    go_ret2
    exact e_bad HF.out hk0.out hb8.out
  rw [g4] at c4
  rw [rounds_succ]
  go_wp2_with (go_at_call 26;refine c4.out.mono ?_;intro e w6 hp;obtain ⟨s4,rfl,hb9⟩:=e_yes hp;have hb6:=Lib.hid (hbn4.out _ hb9);clear hb9 hp c4 f4 x0 x1 x2 x3 x4 x5 x6;obtain ⟨_,_,_,_,_,f5⟩:=hcf.out _ hb6.out;obtain ⟨x0,x1,x2,x3,x4,x5,x6⟩:=hcx.out _ hb6.out)
  have c5:=Lib.hid ((fun W hb=>m_slices c _ _ _ _ w.heap.size W (hC.out W hb) (hbz.out W hb).size (E.out.below (hbz.out W hb)) (counts_len g1)) w6 hb6.out:Calls Tryz.prog 27 _ w6 (EPost (slicesB c) w6))
  have hbn5:=Lib.hid fun W (hb:Below w6.heap.size w6 W)=>hb6.out.trans (hb.mono hb6.out.size)
  cases g5:slicesB c
  · have HF:=Lib.hid (show R=false by rw [hR.out,g0,g1,g2,g3,g4,g5];rfl)
    rw [g5] at c5
    rw [rounds_succ]
    go_wp2_with (go_at_call 27;refine c5.out.mono ?_;intro e w7 hp;obtain ⟨k,s,rfl,hk0,hk1,hb9⟩:=e_no hp;have hb8:=Lib.hid (hbz.out _ (hbn5.out _ hb9));replace hk0:=Lib.hid hk0;clear hb9 hp)
    go_ret2
    exact e_bad HF.out hk0.out hb8.out
  rw [g5] at c5
  rw [rounds_succ]
  go_wp2_with (go_at_call 27;refine c5.out.mono ?_;intro e w7 hp;obtain ⟨s5,rfl,hb9⟩:=e_yes hp;have hb7:=Lib.hid (hbn5.out _ hb9);clear hb9 hp c5 f5 x0 x1 x2 x3 x4 x5 x6)
  have HF:=Lib.hid (show R=true by rw [hR.out,g0,g1,g2,g3,g4,g5];rfl)
  rw [rounds_succ]
  go_wp2_with fail
  go_ret2
  exact e_ok HF.out (hbz.out _ hb7.out)
end Go.Proofs.YtdhehcobnbcmdaaGreatDoor
