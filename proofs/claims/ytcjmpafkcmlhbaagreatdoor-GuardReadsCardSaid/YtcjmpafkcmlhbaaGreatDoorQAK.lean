import Derived.Test.YtcjmpafkcmlhbaaGreatDoorQAJ
namespace Go.Proofs.YtcjmpafkcmlhbaaGreatDoor
set_option linter.all false
set_option maxHeartbeats 40000000
set_option maxRecDepth 100000
namespace Grd
open Go.RowKit
theorem cell_of_some {w:World}{k:Nat}{cs:Array Value}{t:TypeId}{z:Nat × Nat} (h:w.heap[k]?=some (.cells cs t z)) (i:Nat):w.cell? ⟨k,i,none⟩=cs[i]?:=by
  simp [World.cell?,h]
theorem Fo.count_le:∀ f:Fo,f.count≤f.size
  | .nil=>Nat.le_refl _
  | .cons _ _ r=>by have:=Fo.count_le r;simp only [Fo.count,Fo.size];omega
def PutOK (c b off lcap fb foff fcap:Nat) (m:Int) (l:List Pt) (fr:List Int) (n:Nat):Prop :=
  ∀ (k:Fo) (q:Pt) (i:Nat) (rest outs:List Pt) (nums:List Int) (vo vn:Value) (w:World),
    k.size < n→(k.count:Int)=q.n→k.good→l.drop i=q::(k.flat++rest)→outs.length≤2*i+1→nums.length=outs.length →
    Cop c (.slice (some ⟨b,off,none⟩) l.length lcap) (.slice (some ⟨fb,foff,none⟩) l.length fcap) vo vn (i:Int) outs nums w→Lay c b off fb foff m l fr w →
    Calls Tryz.prog 37 #[.pointer (some ⟨c,0,none⟩)] w (CopPost c (.slice (some ⟨b,off,none⟩) l.length lcap) (.slice (some ⟨fb,foff,none⟩) l.length fcap) vo vn w ((i+1+k.size:Nat):Int)
      (outs++ptsOf ((q,some i)::gl k q 0 (i+1))) (nums++numsOf fr ((q,some i)::gl k q 0 (i+1))))
def EachAt (c b off lcap fb foff fcap:Nat) (m:Int) (l:List Pt) (fr:List Int) (p:Pt) (f:Fo) (i:Nat) (rest outs:List Pt) (nums:List Int) (vo vn:Value) (w:World) (e:Nat) (u:Value) (w':World):Prop :=
  ∃ (nth:Nat) (f':Fo) (i':Nat) (vo' vn':Value) (done:List (Pt × Option Nat)),
    u=.int .i64 (nth:Int)∧((f'.count+nth:Nat):Int)=p.n∧f'.good∧f'.size≤f.size∧l.drop i'=f'.flat++rest∧i'+f'.size=i+f.size∧(outs++ptsOf done).length≤2*i' ∧
    done++gl f' p nth i'=gl f p 0 i ∧
    Cop c (.slice (some ⟨b,off,none⟩) l.length lcap) (.slice (some ⟨fb,foff,none⟩) l.length fcap) vo' vn' (i':Int) (outs++ptsOf done) (nums++numsOf fr done) w'∧Lay c b off fb foff m l fr w'∧Trans c vo vn w vo' vn' w' ∧
    (e < w'.heap.size∧e≠c∧vo'.ownBlock≠some e∧vn'.ownBlock≠some e) ∧
    w'.cell? ⟨e,0,none⟩=some (.int .u8 (p.k.toNat:Int))∧w'.cell? ⟨e,1,none⟩=some (.int .i64 p.n)∧w'.cell? ⟨e,2,none⟩=some (.string ⟨p.w.toArray⟩)
def preOf (p:Pt) (nth:Nat) (q:Pt):List (Pt × Option Nat):=if levL q.k q.w < leastL p.k p.w nth then [(paren,none)] else []
theorem each_next {c b off lcap fb foff fcap:Nat}{m:Int}{l:List Pt}{fr:List Int}{p:Pt}{f:Fo}{i:Nat}{rest outs:List Pt}{nums:List Int}{vo vn:Value}{w:World}{e:Nat}
    {nth i':Nat}{q:Pt}{k r:Fo}{done:List (Pt × Option Nat)}{v1 v2 v3 v4:Value}{w1 w2:World}
    (H:(((Fo.cons q k r).count+nth:Nat):Int)=p.n∧(k.count:Int)=q.n∧k.good∧r.good∧l.drop i'=(Fo.cons q k r).flat++rest∧i'+(Fo.cons q k r).size=i+f.size∧(outs++ptsOf done).length≤2*i' ∧
      done++gl (.cons q k r) p nth i'=gl f p 0 i∧(Fo.cons q k r).size≤f.size∧l[i']?=some q)
    (hT1:Trans c vo vn w v1 v2 w1) (hL:Lay c b off fb foff m l fr w1)
    (he:e < w1.heap.size∧e≠c∧v1.ownBlock≠some e∧v2.ownBlock≠some e)
    (e0:w1.cell? ⟨e,0,none⟩=some (.int .u8 (p.k.toNat:Int))) (e1:w1.cell? ⟨e,1,none⟩=some (.int .i64 p.n)) (e2:w1.cell? ⟨e,2,none⟩=some (.string ⟨p.w.toArray⟩))
    (hC1:Cop c (.slice (some ⟨b,off,none⟩) l.length lcap) (.slice (some ⟨fb,foff,none⟩) l.length fcap) v1 v2 (i':Int) (outs++ptsOf (done++preOf p nth q)) (nums++numsOf fr (done++preOf p nth q)) w1)
    (hC:Cop c (.slice (some ⟨b,off,none⟩) l.length lcap) (.slice (some ⟨fb,foff,none⟩) l.length fcap) v3 v4 ((i'+1+k.size:Nat):Int)
      (outs++ptsOf (done++preOf p nth q)++ptsOf ((q,some i')::gl k q 0 (i'+1))) (nums++numsOf fr (done++preOf p nth q)++numsOf fr ((q,some i')::gl k q 0 (i'+1))) w2)
    (hT2:Trans c v1 v2 w1 v3 v4 w2) :
    EachAt c b off lcap fb foff fcap m l fr p f i rest outs nums vo vn w e (.int .i64 ((nth:Int)+1)) w2:=by
  obtain⟨h1,h2,h3,h4,h5,h6,h7,h8,h9,h10⟩:=H
  obtain⟨g1,g2,g3,g4⟩:=he
  have hk:=Trans.keep hT2 g1 g2 g3 g4
  have hgk:=gl_len k q 0 (i'+1)
  refine⟨nth+1,r,i'+1+k.size,v3,v4,done++preOf p nth q++(q,some i')::gl k q 0 (i'+1),by simp,?_,h4,?_,?_,?_,?_,?_,?_,hL.trans hC1 hT2,hT1.trans hT2,⟨Nat.lt_of_lt_of_le g1 hT2.size,g2,fun x=>?_,fun x=>?_⟩,?_,?_,?_⟩
  · rw [← h1];simp [Fo.count];omega
  · simp only [Fo.size] at h9;omega
  · have:l.drop (i'+1+k.size)=(l.drop i').drop (1+k.size):=by rw [List.drop_drop];congr 1;omega
    rw [this,h5,Nat.add_comm 1,Fo.flat,List.cons_append,List.drop_succ_cons,List.append_assoc,← Fo.flat_len,List.drop_left]
  · simp only [Fo.size] at h6;omega
  · have hp:(preOf p nth q).length≤1:=by unfold preOf;split <;> simp
    simp only [ptsOf,List.length_append,List.length_map,List.length_cons] at h7 ⊢;omega
  · rw [← h8];simp [gl,preOf]
  · simpa [ptsOf,numsOf] using hC
  · rcases hT2.bo e x with x|x
    · exact g3 x
    · omega
  · rcases hT2.bn e x with x|x
    · exact g4 x
    · omega
  · rw [hk];exact e0
  · rw [hk];exact e1
  · rw [hk];exact e2
theorem each_gen (c b off lcap fb foff fcap:Nat) (m:Int) (l:List Pt) (fr:List Int) (vo vn:Value) (i:Nat) (rest outs:List Pt) (nums:List Int) (p:Pt) (f:Fo) (w:World)
    (hl:l.length≤1099511627776) (hw:∀ q∈l,q.w.length≤1125899906842624) (hpw:p.w.length≤1125899906842624)
    (hf:(f.count:Int)=p.n) (hg:f.good) (hd:l.drop i=f.flat++rest) (ho:outs.length≤2*i) (hno:nums.length=outs.length)
    (hC:Cop c (.slice (some ⟨b,off,none⟩) l.length lcap) (.slice (some ⟨fb,foff,none⟩) l.length fcap) vo vn (i:Int) outs nums w)
    (hL:Lay c b off fb foff m l fr w) (hP:PutOK c b off lcap fb foff fcap m l fr f.size) :
    Calls Tryz.prog 86 #[.pointer (some ⟨c,0,none⟩),.agg #[.int .u8 (p.k.toNat:Int),.int .i64 p.n,.string ⟨p.w.toArray⟩],.func (.func 37) #[.pointer (some ⟨c,0,none⟩)] #[]] w
      (CopPost c (.slice (some ⟨b,off,none⟩) l.length lcap) (.slice (some ⟨fb,foff,none⟩) l.length fcap) vo vn w ((i+f.size:Nat):Int) (outs++ptsOf (gl f p 0 i)) (nums++numsOf fr (gl f p 0 i))):=by
  obtain⟨i0,hi0,hz0,hz1,hz2⟩:=info_parts Tryz.infoPt
  obtain⟨i3,hi3,hz3,hz4,hz5⟩:=info_parts Tryz.infoI3
  have hB:=(Below.refl w.heap.size w).alloc (Nat.le_refl _) (Obj.cells #[.int .u8 p.k.toNat,.int .i64 p.n,.string ⟨p.w.toArray⟩] 39)
  have hst:EachAt c b off lcap fb foff fcap m l fr p f i rest outs nums vo vn w w.heap.size (.int .i64 0) (w.alloc (Obj.cells #[.int .u8 p.k.toNat,.int .i64 p.n,.string ⟨p.w.toArray⟩] 39)):=by
    have hbx:=heap_alloc_new w (Obj.cells #[.int .u8 p.k.toNat,.int .i64 p.n,.string ⟨p.w.toArray⟩] 39)
    have:=lt_of_block hC.blk
    refine⟨0,f,i,vo,vn,[],rfl,by simpa using hf,hg,Nat.le_refl _,hd,rfl,by simpa [ptsOf] using ho,by simp,by simpa [ptsOf,numsOf] using hC.later hB,hL.trans hC (.below hB),.below hB,⟨by simp,by omega,fun e=>?_,fun e=>?_⟩,?_,?_,?_⟩
    · have:=(hC.own.lt _ e).2;omega
    · have:=(hC.onn.lt _ e).2;omega
    all_goals (rw [cell_of_some hbx];rfl)
  have e1:(w.alloc (Obj.cells #[.int .u8 p.k.toNat,.int .i64 p.n,.string ⟨p.w.toArray⟩] 39)).cell? ⟨w.heap.size,1,none⟩=some (.int .i64 p.n):=by
    have hbx:=heap_alloc_new w (Obj.cells #[.int .u8 p.k.toNat,.int .i64 p.n,.string ⟨p.w.toArray⟩] 39)
    rw [cell_of_some hbx];rfl
  have HST:=Lib.hid hst
  have HG:=Lib.hid (And.intro hf (And.intro hg hd))
  clear hst hf hg hd hC hL hB
  go_enter Tryz.func86,Tryz.ntmps86
  go_wp2_with fail
  have hst:=HST.out
  clear e1 HST
  generalize (w.alloc (Obj.cells #[.int .u8 p.k.toNat,.int .i64 p.n,.string ⟨p.w.toArray⟩] 39))=w1 at *
  generalize w.heap.size=e at *
  go_loopw [9] (fun u w'=>EachAt c b off lcap fb foff fcap m l fr p f i rest outs nums vo vn w e u w') (fun u _=>(p.n - intOf u).toNat)
  case atStart=>exact hst
  case round =>
    clear hst
    obtain⟨nth,f',i',vo',vn',done,rfl,hcnt,hgood,hsz,hdrop,hi',hol,hgl,hC,hL,hT,⟨he1,he2,he3,he4⟩,e0,e1,e2⟩:=hrel
    cases f' with
    | nil =>
      have hdec:decide ((nth:Int) < p.n)=false:=decide_eq_false (by simp [Fo.count] at hcnt;omega)
      have hii:i'=i+f.size:=by simpa [Fo.size] using hi'
      have hdn:done=gl f p 0 i:=by simpa [gl] using hgl
      subst hii hdn
      clear e0 e2 hcnt hgl hi' hol hw hl
      go_wp2_with fail
      go_end0
      exact⟨vo',vn',rfl,hC,hT⟩
    | cons q k r =>
      have hdec:decide ((nth:Int) < p.n)=true:=decide_eq_true (by simp [Fo.count] at hcnt;omega)
      obtain⟨hk1,hk2,hk3⟩:=hgood
      have hlq:l[i']?=some q:=by
        have h0:(l.drop i')[0]?=some q:=by rw [hdrop];rfl
        simpa using h0
      have hql:i' < l.length:=by
        rcases Nat.lt_or_ge i' l.length with h|h
        · exact h
        · rw [List.getElem?_eq_none h] at hlq;cases hlq
      have hnl:(nth:Int) < 1099511627776:=by
        have h1:=HG.out.1
        have h2:=Fo.count_le f
        have h3:=congrArg List.length HG.out.2.2
        simp only [List.length_drop,List.length_append,Fo.flat_len] at h3
        have:=of_decide_eq_true hdec
        omega
      have hqw:q.w.length≤1125899906842624:=hw q (List.mem_of_getElem? hlq)
      obtain⟨p0,p1,p2⟩:=hL.parts i' q hlq
      have hm:=hL.mx
      obtain⟨c0,c1,c2,c3,c4,hc⟩:=hC.cell
      have b0:(0:Int)≤(i':Int):=by omega
      have b1:(i':Int) < (l.length:Int):=by omega
      have HW:=Lib.hid hw
      have H1:=Lib.hid (And.intro hcnt (And.intro hk1 (And.intro hk2 (And.intro hk3 (And.intro hdrop (And.intro hi' (And.intro hol (And.intro hgl (And.intro hsz hlq)))))))))
      clear hw hcnt hk1 hk2 hk3 hdrop hi' hol hgl hsz hlq
      go_wp2_with fail
      go_cut [26] (fun s wx=>s=.bool (decide (levL q.k q.w < leastL p.k p.w nth))∧Below wr.heap.size wr wx)
      case first =>
        go_region_held3 (fun w'=>w'.cell? ⟨c,0,none⟩=some (.slice (some ⟨b,off,none⟩) l.length lcap)∧w'.cell? ⟨c,4,none⟩=some (.int .i64 i') ∧
          w'.cell? ⟨b,off+i'*3,none⟩=some (.int .u8 (q.k.toNat:Int))∧w'.cell? ⟨b,off+i'*3+1,none⟩=some (.int .i64 q.n)∧w'.cell? ⟨b,off+i'*3+2,none⟩=some (.string ⟨q.w.toArray⟩) ∧
          w'.cell? ⟨e,0,none⟩=some (.int .u8 (p.k.toNat:Int))∧w'.cell? ⟨e,1,none⟩=some (.int .i64 p.n)∧w'.cell? ⟨e,2,none⟩=some (.string ⟨p.w.toArray⟩)∧w'.cell? ⟨0,0,none⟩=some (.int .i64 m)∧Below wr.heap.size wr w')
          (first
            | (refine⟨?_,?_,?_,?_,?_,?_,?_,?_,?_,?_⟩
               all_goals first|assumption|exact (Below.refl _ _).drew)
            | (go_split_ands
               refine⟨?_,?_,?_,?_,?_,?_,?_,?_,?_,?_⟩
               all_goals first|exact keepCell hn (by assumption)|exact bthen (by assumption) hn))
          (first
            | (go_at_call 23;refine (level_any q m _ hqw ?_).mono ?_;(simp [*]);rintro e w' ⟨rfl,hn⟩)
            | (go_at_call 118;refine (least_any p nth m _ hpw ?_).mono ?_;(simp [*]);rintro e w' ⟨rfl,hn⟩))
        all_goals (go_wp2_with fail;go_meet)
        all_goals (go_split_ands;exact⟨rfl,by assumption⟩)
      case rest =>
        obtain⟨rfl,hB⟩:=hcut
        have hC2:=hC.later hB
        have hL2:=hL.trans hC (.below hB)
        have hT2:=hT.trans (.below hB)
        have g1:e < wc.heap.size:=Nat.lt_of_lt_of_le he1 hB.size
        have e0':=keepCell hB e0
        have e1':=keepCell hB e1
        have e2':=keepCell hB e2
        obtain⟨wd,hwd⟩:∃ wd,wd=wc:=⟨_,rfl⟩
        subst hwd
        clear hB hC hL hT he1 e0 e1 e2 c0 c1 c2 c3 c4 p0 p1 p2 hm
        generalize hbb:decide (levL q.k q.w < leastL p.k p.w nth)=bb
        cases bb with
        | true =>
          have hlt:=of_decide_eq_true hbb
          clear hbb
          have hpre:preOf p nth q=[(paren,none)]:=by unfold preOf;rw [if_pos hlt]
          have HPRE:=Lib.hid hpre
          clear hlt hpre
          have hol:=H1.out.2.2.2.2.2.2.1
          obtain⟨O,hO⟩:∃ O,O=outs++ptsOf done:=⟨_,rfl⟩
          obtain⟨N,hN⟩:∃ N,N=nums++numsOf fr done:=⟨_,rfl⟩
          have hON:N.length=O.length:=by rw [hO,hN];simp [ptsOf,numsOf,hno]
          rw [← hO,← hN] at hC2
          rw [← hO] at hol
          have HON:=Lib.hid hON
          have hNl:N.length≤2*i':=by omega
          clear hON
          have HO:=Lib.hid hO
          have HN:=Lib.hid hN
          clear hO hN
          obtain⟨c0,c1,c2,c3,c4,hc1⟩:=hC2.cell
          have f2:=hC2.free 2
          have hown:=hC2.own
          have hoc:vo'.ownBlock≠some c:=fun e=>by have:=(hown.lt c e).1;omega
          have hfz:∀ o,(wd.alloc o).frozen? ⟨c,2,none⟩=false:=fun o=>by rw [World.frozen?_alloc_old _ _ _ (by simp;omega)];exact f2
          have hCc:∀ o,(wd.alloc o).cell? ⟨c,2,none⟩=some vo':=fun o=>by rw [((Below.refl wd.heap.size wd).alloc (Nat.le_refl _) o).cell hc1];exact c2
          have hB:∀ o,Below wd.heap.size wd (wd.alloc o):=fun o=>(Below.refl wd.heap.size wd).alloc (Nat.le_refl _) o
          go_wp2_with (at_builtin;refine wpList_append_lies _ rfl (.tmp 31) (.tmp 33) 22 rfl (c+1) 39 i0 _ 3 32 Tryz.underlying22 hi0 hz0 hz1 hz2 rfl (by omega) vo' O.length (pcells O) rfl (hown.alloc _) ⟨wd.heap.size,0,none⟩ 1 1 paren.cells rfl rfl (World.news_of_block (cs:=#[.int .u8 28,.int .i64 1,.string ⟨#[]⟩]) (t:=39) (fr:=(0,0)) (heap_alloc_new wd _)) (by simp [Pt.cells,paren,Value.oneCell']) (by omega) (by unfold maxLen;omega) (by omega) (by simp;omega) (wd.heap.size+1) (by simp) ?_)
          intro gg cap w2 hown2 hgrow2 hat2 hlt2
          have k2:w2.cell? ⟨c,2,none⟩=some vo':=(hgrow2.cell_far _ (by simp;omega) (Ne.symm hoc)).trans (hCc _)
          have z2:w2.frozen? ⟨c,2,none⟩=false:=(hgrow2.frozen_far _ (by simp;omega) (Ne.symm hoc)).trans (hfz _)
          have hX:=Cop.outed (hC2.later (hB _)) hown2 hgrow2 (hat2.imp id (fun e=>by rw [e];simp))
          have T5:=(Trans.below (c:=c) (vo:=vo') (vn:=vn') (hB (Obj.cells #[.int .u8 28,.int .i64 1,.string ⟨#[]⟩] 39))).trans hX.2
          have hC5:=hX.1
          have hL5:=hL2.trans hC2 T5
          have hT5:=hT2.trans T5
          have hk5:=Trans.keep T5 g1 he2 he3 he4
          have e0:=(hk5 0).trans e0'
          have e1:=(hk5 1).trans e1'
          have e2:=(hk5 2).trans e2'
          have g5:e < (w2.setCell ⟨c,2,none⟩ (.slice (some ⟨gg,0,none⟩) (O.length+1) cap)).heap.size:=Nat.lt_of_lt_of_le g1 T5.size
          have he5:(Value.slice (some ⟨gg,0,none⟩) (O.length+1) cap).ownBlock≠some e:=fun x=>by
            rcases T5.bo e x with x|x
            · exact he3 x
            · omega
          go_upto_region 6 with fail
          clear hX hk5 e0' e1' e2' hT2 hL2 hC2 T5 hB hCc hfz k2 z2 hown hown2 hgrow2 hat2 hlt2 f2 c0 c1 c2 c3 c4 hc1
          generalize w2.setCell ⟨c,2,none⟩ (.slice (some ⟨gg,0,none⟩) (O.length+1) cap)=w5 at *
          generalize Value.slice (some ⟨gg,0,none⟩) (O.length+1) cap=vo5 at *
          obtain⟨c0,c1,c2,c3,c4,hc1⟩:=hC5.cell
          have f3:=hC5.free 3
          have hown:=hC5.onn
          have hnc:vn'.ownBlock≠some c:=fun e=>by have:=(hown.lt c e).1;omega
          have hfz:∀ o,(w5.alloc o).frozen? ⟨c,3,none⟩=false:=fun o=>by rw [World.frozen?_alloc_old _ _ _ (by simp;omega)];exact f3
          have hCc:∀ o,(w5.alloc o).cell? ⟨c,3,none⟩=some vn':=fun o=>by rw [((Below.refl w5.heap.size w5).alloc (Nat.le_refl _) o).cell hc1];exact c3
          have hB:∀ o,Below w5.heap.size w5 (w5.alloc o):=fun o=>(Below.refl w5.heap.size w5).alloc (Nat.le_refl _) o
          go_wp2_with (at_builtin;refine wpList_append_lies _ rfl (.tmp 41) (.tmp 42) 51 rfl (c+1) 3 i3 _ 1 8 Tryz.underlying51 hi3 hz3 hz4 hz5 rfl (by omega) vn' N.length (zvs N) rfl (hown.alloc _) ⟨w5.heap.size,0,none⟩ 1 1 [.int .i64 (-1)] rfl rfl (World.news_of_block (cs:=#[.int .i64 (-1)]) (t:=3) (fr:=(0,0)) (heap_alloc_new w5 _)) (by simp [Value.oneCell']) (by omega) (by unfold maxLen;omega) (by omega) (by simp;omega) (w5.heap.size+1) (by simp) ?_)
          intro gg2 cap2 w6 hown2 hgrow2 hat2 hlt2
          have k2:w6.cell? ⟨c,3,none⟩=some vn':=(hgrow2.cell_far _ (by simp;omega) (Ne.symm hnc)).trans (hCc _)
          have z2:w6.frozen? ⟨c,3,none⟩=false:=(hgrow2.frozen_far _ (by simp;omega) (Ne.symm hnc)).trans (hfz _)
          have hX:=Cop.numbered (hC5.later (hB _)) hown2 hgrow2 (hat2.imp id (fun e=>by rw [e];simp))
          have T6:=(Trans.below (c:=c) (vo:=vo5) (vn:=vn') (hB (Obj.cells #[.int .i64 (-1)] 3))).trans hX.2
          have hC6:=hX.1
          have hL6:=hL5.trans hC5 T6
          have hT6:=hT5.trans T6
          have hk6:=Trans.keep T6 g5 he2 he5 he4
          have e0':=(hk6 0).trans e0
          have e1':=(hk6 1).trans e1
          have e2':=(hk6 2).trans e2
          have g6:e < (w6.setCell ⟨c,3,none⟩ (.slice (some ⟨gg2,0,none⟩) (N.length+1) cap2)).heap.size:=Nat.lt_of_lt_of_le g5 T6.size
          have he6:(Value.slice (some ⟨gg2,0,none⟩) (N.length+1) cap2).ownBlock≠some e:=fun x=>by
            rcases T6.bn e x with x|x
            · exact he4 x
            · omega
          have hC3:Cop c (.slice (some ⟨b,off,none⟩) l.length lcap) (.slice (some ⟨fb,foff,none⟩) l.length fcap) vo5 (.slice (some ⟨gg2,0,none⟩) (N.length+1) cap2) (i':Int) (outs++ptsOf (done++preOf p nth q)) (nums++numsOf fr (done++preOf p nth q)) (w6.setCell ⟨c,3,none⟩ (.slice (some ⟨gg2,0,none⟩) (N.length+1) cap2)):=by
            have a1:outs++ptsOf (done++preOf p nth q)=O++[paren]:=by rw [HO.out,HPRE.out];simp [ptsOf]
            have a2:nums++numsOf fr (done++preOf p nth q)=N++[-1]:=by rw [HN.out,HPRE.out];simp [numsOf,numOf]
            rw [a1,a2];exact hC6
          have hOl:(outs++ptsOf (done++preOf p nth q)).length≤2*i'+1:=by
            have a1:outs++ptsOf (done++preOf p nth q)=O++[paren]:=by rw [HO.out,HPRE.out];simp [ptsOf]
            rw [a1];simp;omega
          obtain⟨h1,h2,h3,h4,h5,h6,h7,h8,h9,h10⟩:=H1.out
          have hput:=hP k q i' (r.flat++rest) _ _ vo5 _ _ (by simp only [Fo.size] at h9;omega) h2 h3 (by rw [h5];simp [Fo.flat]) hOl (by simp [ptsOf,numsOf,hno]) hC3 hL6
          have HPUT:=Lib.hid hput
          go_upto_region 7 with fail
          clear hput h1 h2 h3 h4 h5 h6 h7 h8 h9 h10 hX T6 hC6 hk6 hOl hC5 hL5 hT5 e0 e1 e2 hB hCc hfz k2 z2 hown hown2 hgrow2 hat2 hlt2 f3 c0 c1 c2 c3 c4 hc1
          generalize w6.setCell ⟨c,3,none⟩ (.slice (some ⟨gg2,0,none⟩) (N.length+1) cap2)=w7 at *
          generalize Value.slice (some ⟨gg2,0,none⟩) (N.length+1) cap2=vn7 at *
          go_wp2_with fail
          refine HPUT.out.mono ?_
          rintro ee w9 ⟨vo9,vn9,rfl,hC9,hT9⟩
          have hnx:=each_next H1.out hT6 hL6 ⟨g6,he2,he5,he6⟩ e0' e1' e2' hC3 hC9 hT9
          have HNX:=Lib.hid hnx
          clear hnx hC9 hT9 hC3 hT6 e0' e1' e2'
          go_wp2_with fail
          go_roundw
          case rel=>exact HNX.out
          case measure=>simp only [intOf];have:=of_decide_eq_true hdec;omega
        | false =>
          have hlt:=of_decide_eq_false hbb
          clear hbb
          have hpre:preOf p nth q=[]:=by unfold preOf;rw [if_neg hlt]
          have HPRE:=Lib.hid hpre
          clear hlt hpre
          have hC3:Cop c (.slice (some ⟨b,off,none⟩) l.length lcap) (.slice (some ⟨fb,foff,none⟩) l.length fcap) vo' vn' (i':Int) (outs++ptsOf (done++preOf p nth q)) (nums++numsOf fr (done++preOf p nth q)) wd:=by
            rw [HPRE.out,List.append_nil];exact hC2
          obtain⟨h1,h2,h3,h4,h5,h6,h7,h8,h9,h10⟩:=H1.out
          have hput:=hP k q i' (r.flat++rest) _ _ vo' vn' wd (by simp only [Fo.size] at h9;omega) h2 h3 (by rw [h5];simp [Fo.flat]) (by rw [HPRE.out,List.append_nil];omega) (by simp [ptsOf,numsOf,hno]) hC3 hL2
          have HPUT:=Lib.hid hput
          clear hput h1 h2 h3 h4 h5 h6 h7 h8 h9 h10
          go_wp2_with fail
          refine HPUT.out.mono ?_
          rintro ee w9 ⟨vo9,vn9,rfl,hC9,hT9⟩
          have hnx:=each_next H1.out hT2 hL2 ⟨g1,he2,he3,he4⟩ e0' e1' e2' hC3 hC9 hT9
          have HNX:=Lib.hid hnx
          clear hnx hC9 hT9 hC3 hC2 hT2 e0' e1' e2'
          go_wp2_with fail
          go_roundw
          case rel=>exact HNX.out
          case measure=>simp only [intOf];have:=of_decide_eq_true hdec;omega
end Grd
namespace Grd
open Go.RowKit
theorem put_all (c b off lcap fb foff fcap:Nat) (m:Int) (l:List Pt) (fr:List Int) (hl:l.length≤1099511627776) (hw:∀ q∈l,q.w.length≤1125899906842624) :
  ∀ n,PutOK c b off lcap fb foff fcap m l fr n:=by
 intro n
 induction n with
 | zero=>intro k q i rest outs nums vo vn w h;omega
 | succ n ih =>
  intro k q i rest outs nums vo vn w hs hk hg hd ho hno hC hL
  have hlq:l[i]?=some q:=by
   have h0:(l.drop i)[0]?=some q:=by rw [hd];rfl
   simpa using h0
  have hil:i < l.length:=by
   rcases Nat.lt_or_ge i l.length with h|h
   ·exact h
   ·rw [List.getElem?_eq_none h] at hlq;cases hlq
  have hf:fr[i]?=some (fr.getD i 0):=by
   rw [List.getD_eq_getElem?_getD,List.getElem?_eq_getElem (by rw [hL.len];exact hil)];rfl
  refine put_gen c b off lcap fb foff fcap m l fr vo vn i outs _ nums _ _ q (fr.getD i 0) w hl (by omega) (by omega) hil hlq hf hC hL ?_
  intro vo1 vn1 w1 hC1 hL1
  have he:=each_gen c b off lcap fb foff fcap m l fr vo1 vn1 (i+1) rest (outs++[q]) (nums++[fr.getD i 0]) q k w1 hl hw (hw q (List.mem_of_getElem? hlq)) hk hg
   (by have this:l.drop (i+1)=(l.drop i).drop 1:=(by rw [List.drop_drop]);rw [this,hd];rfl) (by simp;omega) (by simp [hno]) (by simpa using hC1) hL1 (fun k' q' i' r' o' n' a b' w' hs'=>ih k' q' i' r' o' n' a b' w' (by omega))
  have a1:outs++[q]++ptsOf (gl k q 0 (i+1))=outs++ptsOf ((q,some i)::gl k q 0 (i+1)):=by simp [ptsOf]
  have a2:nums++[fr.getD i 0]++numsOf fr (gl k q 0 (i+1))=nums++numsOf fr ((q,some i)::gl k q 0 (i+1)):=by simp [numsOf,numOf]
  rw [a1,a2] at he
  exact he
end Grd
end Go.Proofs.YtcjmpafkcmlhbaaGreatDoor
