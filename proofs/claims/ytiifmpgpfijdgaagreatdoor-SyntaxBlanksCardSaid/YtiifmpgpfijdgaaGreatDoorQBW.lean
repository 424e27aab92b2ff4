import Derived.Test.YtiifmpgpfijdgaaGreatDoorQAW
import Derived.Test.YtiifmpgpfijdgaaGreatDoorQBV
namespace Go.Proofs.YtiifmpgpfijdgaaGreatDoor
set_option linter.all false
set_option maxHeartbeats 40000000
set_option maxRecDepth 100000
section
variable {s u:List UInt8}
theorem nestN_semi {s:List UInt8}{l:List Tk}{p:List Int} (h:nestN s=.ok l p):semiR s=.ok l:=by
 unfold nestN at h
 split at h
 ·cases h
 ·rename_i l2 p2 m hW
  cases h
  unfold nestWR at hW
  split at hW
  ·cases hW
  ·rename_i l3 hS
   obtain⟨h1,h2,h3⟩:=semiR_ok hS
   obtain⟨rfl,_⟩:=nestF_ok s l3 l3 0 _ _ _ _ hW (by simp) (by omega) (fun x hx=>by rw [List.eq_of_mem_replicate hx];decide) (fun x hx=>by cases hx) (by omega)
   exact hS
structure Twin (s u:List UInt8) (t t':Tk):Prop where
 kind:t'.kind=t.kind
 le:t'.fr≤t'.to
 text:(u.take t'.to).drop t'.fr=wtx s t
 len:t'.to - t'.fr=(wtx s t).length
 byte:∀ b r,wtx s t=b::r→byteAt u t'.fr=b
theorem wtk_twin:∀ (L:List Tk) (o:Nat),u.drop o=wrt s L→∀ (i:Nat) (t:Tk),L[i]?=some t→∃ t',(wtk s o L)[i]?=some t'∧Twin s u t t'
 | [],o,_,i,t,h=>by simp at h
 | x::L,o,hd,i,t,h=>by
  rw [wrt] at hd
  have hd1:u.drop (o+1)=wtx s x++wrt s L:=by rw [← List.drop_drop,hd];rfl
  have hd2:u.drop (o+1+(wtx s x).length)=wrt s L:=by rw [← List.drop_drop,hd1,List.drop_left]
  cases i with
  | zero =>
   obtain rfl:x=t:=by simpa using h
   refine⟨_,rfl,rfl,by simp,?_,by simp,fun b r e=>?_⟩
   ·show (u.take (o+1+(wtx s x).length)).drop (o+1)=_
    rw [List.drop_take,hd1,show o+1+(wtx s x).length - (o+1)=(wtx s x).length by omega,List.take_left]
   ·unfold byteAt
    have:(u.drop (o+1))[0]?=some b:=by rw [hd1,e];rfl
    rw [List.getElem?_drop] at this
    show u[o+1]?.getD 0=b
    rw [show o+1=o+1+0 from rfl,this];rfl
  | succ i =>
   obtain⟨t',h1,h2⟩:=wtk_twin L _ hd2 i t (by simpa using h)
   exact⟨t',by rw [wtk];simpa using h1,h2⟩
theorem tk_byte {t:Tk} (h:LexAt s t.fr t.to t.kind) (h9:t.kind≠9):∃ r,wtx s t=byteAt s t.fr::r:=by
 obtain⟨b,r,e,_,e2,_⟩:=wtx_tok h h9
 refine⟨r,?_⟩
 have:(s.drop t.fr)[0]?=some b:=by rw [e2,e];rfl
 rw [List.getElem?_drop] at this
 unfold byteAt
 rw [show t.fr=t.fr+0 from rfl,this]
 exact e
theorem nest_go {L0 L0':List Tk}:∀ (L L':List Tk) (i:Nat) (st:NestS) (p:List Int) (m:Nat),L.length=L'.length→(∀ (j:Nat) (t:Tk),L[j]?=some t→∃ t',L'[j]?=some t'∧Twin s u t t')→(∀ t∈L,TkWell s t)→L0.drop i=L→L0'.drop i=L' →
  (∀ x∈st.stk,byteAt s (tkFr L0 x)=byteAt u (tkFr L0' x))→nestF s L0 L i st=.ok L0 p m→nestF u L0' L' i st=.ok L0' p m
 | [],L',i,st,p,m,hl,_,_,_,_,_,h=>by
  obtain rfl:L'=[]:=List.eq_nil_of_length_eq_zero hl.symm
  rw [nestF] at h ⊢
  split at h
  ·rename_i c
   rw [if_pos c]
   cases h
   rfl
  ·cases h
 | t::L,[],i,st,p,m,hl,_,_,_,_,_,h=>by cases hl
 | t::L,t'::L',i,st,p,m,hl,hT,hW,h0,h0',hk,h=>by
  obtain⟨t2,e2,hw⟩:=hT 0 t rfl
  obtain rfl:t'=t2:=by simpa using e2
  have hl2:L.length=L'.length:=by simpa using hl
  have hT2:∀ (j:Nat) (x:Tk),L[j]?=some x→∃ x',L'[j]?=some x'∧Twin s u x x':=fun j x hx=>by
   obtain⟨x',h1,h2⟩:=hT (j+1) x (by simpa using hx)
   exact⟨x',by simpa using h1,h2⟩
  have hW2:∀ x∈L,TkWell s x:=fun x hx=>hW x (.tail _ hx)
  have d0:L0.drop (i+1)=L:=by rw [← List.drop_drop,h0];rfl
  have d0':L0'.drop (i+1)=L':=by rw [← List.drop_drop,h0'];rfl
  have g0:tkFr L0 i=t.fr:=by
   have:(L0.drop i)[0]?=some t:=by rw [h0];rfl
   rw [List.getElem?_drop] at this
   unfold tkFr
   rw [show i=i+0 from rfl,this];rfl
  have g0':tkFr L0' i=t'.fr:=by
   have:(L0'.drop i)[0]?=some t':=by rw [h0'];rfl
   rw [List.getElem?_drop] at this
   unfold tkFr
   rw [show i=i+0 from rfl,this];rfl
  rw [nestF] at h ⊢
  by_cases c:t.kind≠8∨t.to - t.fr≠1
  ·rw [if_pos c] at h
   have c':t'.kind≠8∨t'.to - t'.fr≠1:=by
    rw [hw.kind,hw.len]
    by_cases c8:t.kind=8
    ·right
     have hL:=(hW t (.head _)).resolve_left (by rw [c8];decide)
     obtain⟨_,_,_,_,_,e⟩:=wtx_tok hL (by rw [c8];decide)
     rw [e]
     exact c.resolve_left (fun h=>h c8)
    ·exact .inl c8
   rw [if_pos c']
   exact nest_go L L' (i+1) _ p m hl2 hT2 hW2 d0 d0' hk h
  ·rw [if_neg c] at h
   have c8:t.kind=8:=Decidable.byContradiction fun h=>c (.inl h)
   have hL:=(hW t (.head _)).resolve_left (by rw [c8];decide)
   obtain⟨_,_,_,_,_,e⟩:=wtx_tok hL (by rw [c8];decide)
   have c':¬ (t'.kind≠8∨t'.to - t'.fr≠1):=by rw [hw.kind,hw.len,e];exact c
   rw [if_neg c']
   obtain⟨r,hr⟩:=tk_byte hL (by rw [c8];decide)
   have hb:byteAt u t'.fr=byteAt s t.fr:=hw.byte _ _ hr
   rw [hb]
   split at h
   ·rename_i c2
    rw [if_pos c2]
    split at h
    ·cases h
    ·rename_i c3
     rw [if_neg c3]
     refine nest_go L L' (i+1) _ p m hl2 hT2 hW2 d0 d0' (fun x hx=>?_) h
     simp only [List.mem_append,List.mem_singleton] at hx
     rcases hx with hx|rfl
     ·exact hk x hx
     ·rw [g0,g0',hb]
   ·rename_i c2
    rw [if_neg c2]
    split at h
    ·rename_i c3
     rw [if_pos c3]
     split at h
     ·cases h
     ·rename_i c4
      have hne:st.stk≠[]:=fun e=>c4 (.inl e)
      have htop:st.top∈st.stk:=by
       unfold NestS.top
       rw [List.getLast?_eq_some_getLast hne,Option.getD_some]
       exact List.getLast_mem hne
      rw [if_neg (by rw [← hk _ htop];exact c4)]
      refine nest_go L L' (i+1) _ p m hl2 hT2 hW2 d0 d0' (fun x hx=>hk x (List.dropLast_subset _ hx)) h
    ·rename_i c3
     rw [if_neg c3]
     exact nest_go L L' (i+1) _ p m hl2 hT2 hW2 d0 d0' hk h
theorem nest_wr {L:List Tk}{p:List Int} (h:nestN s=.ok L p) (hl:s.length≤16000):nestN (wrt s L)=.ok (wtk s 0 L) p:=by
 have hS:=nestN_semi h
 have hk:=semi_toks hS
 unfold nestN nestWR at h ⊢
 rw [hS] at h
 rw [semi_wr hS hl]
 simp only at h ⊢
 cases hW:nestF s L L 0 ⟨List.replicate L.length 0,[],0⟩ with
 | bad e a=>rw [hW] at h;cases h
 | ok L2 p2 m =>
  rw [hW] at h
  cases h
  have hg:=nest_go (u:=wrt s L) (L0':=wtk s 0 L) L (wtk s 0 L) 0 ⟨List.replicate L.length 0,[],0⟩ p m (wtk_len s L 0).symm (wtk_twin L 0 rfl) hk.toks rfl rfl (fun x hx=>by cases hx) hW
  rw [wtk_len,hg]
structure EnvAg (E E':Env):Prop where
 word:∀ i,E'.word i=E.word i
 kind:∀ i,E'.kind i=E.kind i
 pair:E'.pair=E.pair
 len:E'.l.length=E.l.length
 text:∀ i,E.kind i≠9→E'.text i=E.text i
theorem env_wr {L:List Tk} (p:List Int) (hk:ToksOk s L):EnvAg ⟨s,L,p⟩ ⟨wrt s L,wtk s 0 L,p⟩:=by
 have tw:=wtk_twin (u:=wrt s L) L 0 rfl
 have hn:∀ i,L[i]?=none→(wtk s 0 L)[i]?=none:=fun i h=>by
  rw [List.getElem?_eq_none_iff] at h ⊢
  rw [wtk_len];exact h
 have tx:∀ t∈L,t.kind≠9→(s.take t.to).drop t.fr=wtx s t:=fun t ht h9=>by
  unfold wtx;rw [if_neg h9,List.drop_take]
 refine⟨fun i=>?_,fun i=>?_,rfl,wtk_len s L 0,fun i hi=>?_⟩
 ·unfold Env.word
  split
  ·rfl
  ·show (match (wtk s 0 L)[i.toNat]? with|none=>_|some t=>_)=(match L[i.toNat]? with|none=>_|some t=>_)
   cases hL:L[i.toNat]? with
   | none=>rw [hn _ hL]
   | some t =>
    obtain⟨t',h1,h2⟩:=tw _ _ hL
    rw [h1]
    simp only
    rw [h2.kind]
    split
    ·rfl
    ·rename_i h9
     rw [h2.text,tx t (List.mem_of_getElem? hL) h9]
 ·unfold Env.kind
  split
  ·rfl
  ·show (match (wtk s 0 L)[i.toNat]? with|none=>_|some t=>_)=(match L[i.toNat]? with|none=>_|some t=>_)
   cases hL:L[i.toNat]? with
   | none=>rw [hn _ hL]
   | some t =>
    obtain⟨t',h1,h2⟩:=tw _ _ hL
    rw [h1]
    exact h2.kind
 ·unfold Env.text
  unfold Env.kind at hi
  split
  ·rfl
  ·rename_i hneg
   rw [if_neg hneg] at hi
   show (match (wtk s 0 L)[i.toNat]? with|some t=>_|none=>_)=(match L[i.toNat]? with|some t=>_|none=>_)
   have hi:(match L[i.toNat]? with|none=>0|some t=>t.kind)≠9:=hi
   cases hL:L[i.toNat]? with
   | none=>rw [hn _ hL]
   | some t =>
    rw [hL] at hi
    obtain⟨t',h1,h2⟩:=tw _ _ hL
    rw [h1]
    simp only
    rw [h2.text,tx t (List.mem_of_getElem? hL) hi]
end
section
theorem ite_same {α:Type}{c:Prop} [Decidable c] {a b r:α} (ha:a=r) (hb:b=r):(if c then a else b)=r:=by split <;> assumption
theorem spW_semi (k:UInt8):spW k [59]=false:=by
 unfold spW
 iterate 11 refine ite_same (by decide) ?_
 decide
section
variable {E E':Env} (h:EnvAg E E')
include h
theorem is_ag (n:Nat) (w:List UInt8):E'.is n w=E.is n w:=by unfold Env.is;rw [h.word]
theorem named_ag (i:Int):E'.named i=E.named i:=by unfold Env.named;rw [h.kind]
theorem quoted_ag (i:Int):E'.quoted i=E.quoted i:=by unfold Env.quoted;rw [h.kind]
theorem literal_ag (i:Int):E'.literal i=E.literal i:=by unfold Env.literal;rw [h.kind]
theorem ended_ag (n:Nat):E'.ended n=E.ended n:=by unfold Env.ended;rw [h.len]
theorem want_ag (w:List UInt8) (n:Nat):want E' w n=want E w n:=by unfold want;rw [is_ag h]
theorem name_ag (n:Nat):nameT E' n=nameT E n:=by unfold nameT;rw [named_ag h]
theorem str_ag (n:Nat):strT E' n=strT E n:=by unfold strT;rw [quoted_ag h]
theorem after_ag (w:List UInt8) (n:Nat):after E' w n=after E w n:=by unfold after;rw [is_ag h]
theorem across_ag (i:Int):across E' i=across E i:=by unfold across;rw [h.word,h.pair]
theorem bare_ag (n:Nat):bare E' n=bare E n:=by unfold bare;simp only [is_ag h,named_ag h,across_ag h,h.word]
theorem stops_ag (i:Int):stops E' i=stops E i:=by unfold stops;simp only [quoted_ag h,h.word]
theorem embedded_ag (n:Nat):embedded E' n=embedded E n:=by unfold embedded;simp only [is_ag h,named_ag h,across_ag h,stops_ag h]
theorem generic_ag (n:Nat):generic E' n=generic E n:=by unfold generic;simp only [is_ag h,named_ag h]
theorem tag_ag (n:Nat):tagT E' n=tagT E n:=by unfold tagT;simp only [quoted_ag h,str_ag h]
theorem quiet_ag (n:Nat):quiet E' n=quiet E n:=by unfold quiet;simp only [is_ag h,ended_ag h]
theorem specOf_ag (n:Nat):specOf E' n=specOf E n:=by unfold specOf;simp only [is_ag h]
theorem rowsB_ag (S:Self) (m c:List UInt8) (o:One) (acc:List Tr) (wd:Int) (n:Nat) (g:Bool):rowsB E' S m c o acc wd n g=rowsB E S m c o acc wd n g:=by unfold rowsB;simp only [is_ag h,want_ag h]
theorem rows_ag (S:Self) (b m c:List UInt8) (o:One) (n:Nat) (g:Bool):rows E' S b m c o n g=rows E S b m c o n g:=by unfold rows;simp only [want_ag h]
theorem equals_ag (S:Self) (b:Bool) (n:Nat) (g:Bool):equalsB E' S b n g=equalsB E S b n g:=by unfold equalsB;simp only [is_ag h,want_ag h]
theorem typeNext_ag (n:Nat):typeNext E' n=typeNext E n:=by unfold typeNext;simp only [is_ag h]
theorem tilde_ag (S:Self) (n:Nat) (g:Bool):tilde E' S n g=tilde E S n g:=by unfold tilde;simp only [is_ag h]
theorem ifsTail_ag (S:Self) (fr:Nat) (a b:Tr) (n:Nat) (g:Bool):ifsTail E' S fr a b n g=ifsTail E S fr a b n g:=by unfold ifsTail;simp only [is_ag h]
theorem asked_ag (t:Tr):asked E' t=asked E t:=by unfold asked;simp only [h.word]
theorem switchTail_ag (S:Self) (fr:Nat) (a:Tr) (b:Option Tr) (c:Tr) (n:Nat) (g:Bool):switchTail E' S fr a b c n g=switchTail E S fr a b c n g:=by unfold switchTail;simp only [asked_ag h]
theorem switchSecond_ag (S:Self) (fr:Nat) (a:Tr) (n:Nat) (g:Bool):switchSecond E' S fr a n g=switchSecond E S fr a n g:=by unfold switchSecond;simp only [is_ag h,switchTail_ag h]
theorem forsTail_ag (S:Self) (fr:Nat) (a:Tr) (n:Nat) (g:Bool):forsTail E' S fr a n g=forsTail E S fr a n g:=by unfold forsTail;simp only [is_ag h,want_ag h]
theorem stepT_ag (S:Self) (f:F) (n:Nat) (g:Bool):stepT E' S f n g=stepT E S f n g:=by
 cases f
 case one o=>cases o <;> simp only [stepT,paramB,fieldB,elemB,elementB,importSpecB,constSpecB,typeSpecB,valueSpecB,is_ag h,named_ag h,ended_ag h,want_ag h,name_ag h,str_ag h,after_ag h,bare_ag h,embedded_ag h,generic_ag h,tag_ag h,equals_ag h]
 all_goals simp only [stepT,fileB,fileImportsB,fileDeclsB,groupB,fnB,signatureB,paramsB,tparamsB,namesB,namesMoreB,unionMoreB,typB,rowB,membersB,typeNameB,exprsMoreB,typesMoreB,binMoreB,unaryB,operandB,primMoreB,dotB,callB,indexB,indexMoreB,sliceB,elementsB,valueB,stmtsMoreB,blockB,stmtB,startedB,returnedB,branchB,restB,ifsB,switchesB,clausesB,clausesMoreB,forsB,overallB,is_ag h,named_ag h,quoted_ag h,literal_ag h,ended_ag h,want_ag h,name_ag h,str_ag h,after_ag h,rows_ag h,specOf_ag h,typeNext_ag h,tilde_ag h,ifsTail_ag h,switchTail_ag h,switchSecond_ag h,forsTail_ag h,quiet_ag h,h.word]
theorem spec_ag:∀ k,spec E' k=spec E k
 | 0=>rfl
 | k+1=>by
  show step E' (spec E' k)=step E (spec E k)
  rw [spec_ag k]
  unfold step
  congr 1
  ·funext f n g;exact stepT_ag h _ f n g
  ·funext m c o acc wd n g;exact rowsB_ag h _ m c o acc wd n g
theorem treeT_ag (goal:UInt8):treeT E' goal=treeT E goal:=by
 have he:endT E' goal=endT E goal:=by funext t n;unfold endT;simp only [h.len,ended_ag h,after_ag h]
 unfold treeT stepsT
 rw [spec_ag h,h.len,he]
theorem partW_ag {k:UInt8}{wd:Int} (hs:spelled E k wd=true):partW E' k wd=partW E k wd:=by
 have ht:E'.text wd=E.text wd:=by
  by_cases hn:wd < 0
  ·unfold Env.text;rw [if_pos hn,if_pos hn]
  ·refine h.text wd (fun h9=>?_)
   unfold spelled at hs
   split at hs
   ·unfold Env.named at hs;rw [h9] at hs;exact absurd hs (by decide)
   ·split at hs
    ·unfold Env.literal at hs;rw [h9] at hs;exact absurd hs (by decide)
    ·rw [if_neg (by omega)] at hs
     have hw:E.word wd=[59]:=by
      unfold Env.kind at h9
      unfold Env.word
      rw [if_neg hn] at h9 ⊢
      cases hL:E.l[wd.toNat]? with
      | none=>rw [hL] at h9;cases h9
      | some t =>
       rw [hL] at h9
       simp only at h9 ⊢
       rw [if_pos h9]
     rw [hw] at hs
     simp only [Bool.and_eq_true] at hs
     have hp:=hs.2
     rw [spW_semi] at hp
     cases hp
 unfold partW
 rw [ht,h.word]
mutual
theorem parts_ag:∀ (t:Tr),Sp E t→parts E' t=parts E t
 | .mk k wd f n ks,hs=>by rw [parts,parts,partW_ag h hs.1,partsL_ag ks hs.2]
theorem partsL_ag:∀ (ts:List Tr),Sps E ts→partsL E' ts=partsL E ts
 | [],_=>rfl
 | t::ts,hs=>by rw [partsL,partsL,parts_ag t hs.1,partsL_ag ts hs.2]
end
end
variable {s:List UInt8}
theorem read_wr {goal:UInt8}{L:List Tk}{t:Tr} (h:readT nestN goal s=.ok L t) (hl:s.length≤16000):readT nestN goal (wrt s L)=.ok (wtk s 0 L) t∧parts ⟨wrt s L,wtk s 0 L,[]⟩ t=parts ⟨s,L,[]⟩ t:=by
 obtain⟨p,m,hN,hT⟩:=readT_ok h
 have hk:=semi_toks (nestN_semi hN)
 have hE:=env_wr p hk
 have hN2:=nest_wr hN hl
 have hsp:Sp ⟨s,L,p⟩ t:=treeT_sp hT
 constructor
 ·unfold readT at h ⊢
  split at h
  ·cases h
  ·rename_i c
   rw [if_neg c,hN2]
   simp only
   rw [treeT_ag hE,hT]
 ·rw [parts_pair s L [] p,parts_pair (wrt s L) (wtk s 0 L) [] p]
  exact parts_ag hE t hsp
end
end Go.Proofs.YtiifmpgpfijdgaaGreatDoor
