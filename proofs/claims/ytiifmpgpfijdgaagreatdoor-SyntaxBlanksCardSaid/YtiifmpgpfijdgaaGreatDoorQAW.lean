import Derived.Test.YtiifmpgpfijdgaaGreatDoorQAV
namespace Go.Proofs.YtiifmpgpfijdgaaGreatDoor
set_option linter.all false
set_option maxHeartbeats 40000000
set_option maxRecDepth 100000
section
variable {s:List UInt8}
theorem drop_at (s:List UInt8) (k:Nat):(s.drop k)[0]?=s[k]?:=by rw [List.getElem?_drop];rfl
theorem word_bd (h:Snd s) {k:Nat} (hk:k≤s.length):∀ f p,Bd s (k+p)→k+p≤s.length→(s.drop k).length≤p+f→Bd s (k+wordFrom (s.drop k) f p)
 | 0,p,_,_,hf=>by
  rw [wordFrom,List.length_drop,show k+(s.length - k)=s.length by omega];exact bd_end h
 | f+1,p,hb,hp,hf=>by
  rw [wordFrom]
  split
  ·rename_i hpl
   rw [List.length_drop] at hpl
   have hw:=dec_wid' (ne_drop (s:=s) (p:=k+p) (by omega))
   have hpos:=dec_pos (ne_drop (s:=s) (p:=k+p) (by omega))
   rw [List.length_drop] at hw
   rw [List.drop_drop]
   split
   ·have:=Bd.step _ hb (by omega)
    rw [show k+p+(dec (s.drop (k+p))).2=k+(p+(dec (s.drop (k+p))).2) by omega] at this
    exact word_bd h hk f _ this (by omega) (by omega)
   ·exact hb
  ·rw [List.length_drop,show k+(s.length - k)=s.length by omega];exact bd_end h
theorem cont_byte {l:List UInt8}{hex:Bool}{k i:Nat} (h:Num.contL l hex k i=true):(l[i]?.getD 0).toNat < 128:=by
 unfold Num.contL Num.alB Num.bat at h
 simp only [Bool.or_eq_true,Bool.and_eq_true,decide_eq_true_eq] at h
 rcases h with h|⟨⟨h,_⟩,_⟩
 ·rcases h with h|h|h|h|h
  ·omega
  ·omega
  ·unfold Num.val at h
   split at h
   ·omega
   ·split at h
    ·omega
    ·split at h <;> omega
  ·omega
  ·omega
 ·omega
theorem read_last (l:List UInt8) (m:UInt8):∀ (f it:Nat) (q q2:Qs),readQ l m f it q=(true,q2)→∃ j,q2.k=j+1∧l[j]?=some m
 | 0,it,q,q2,h=>by rw [readQ] at h;cases h
 | f+1,it,q,q2,h=>by
  rw [readQ] at h
  split at h
  ·rename_i hq
   split at h
   ·cases h
   ·split at h
    ·rename_i c
     have h3:q2=⟨q.k+1,q.out,q.bad⟩:=(congrArg Prod.snd h).symm
     subst h3
     exact⟨q.k,rfl,by rw [List.getElem?_eq_getElem hq,c]⟩
    ·split at h
     ·cases h
     ·split at h
      ·exact read_last l m f _ _ _ h
      ·exact read_last l m f _ _ _ h
  ·cases h
theorem begin_last {l:List UInt8}{k:Nat} (hk:k < l.length) (h:(beginQ l k).k≠0):∃ j:Nat,(beginQ l k).tx=(j:Int)+1∧(l[j]?.getD 0).toNat < 128:=by
 unfold beginQ at h ⊢
 rw [dif_pos (by omega)] at h ⊢
 simp only [Int.toNat_natCast] at h ⊢
 by_cases h1:Lib.indexByte ([39,34,96]:List UInt8) l[k] < 0
 ·rw [if_pos h1] at h;exact absurd rfl h
 rw [if_neg h1] at h ⊢
 have hq:(l[k]).toNat < 128:=by
  obtain⟨n,hn⟩:=Int.eq_ofNat_of_zero_le (Int.not_lt.1 h1)
  have hm:=List.mem_of_getElem? (Lib.indexByte_some hn).1
  have hb:l[k]=39∨l[k]=34∨l[k]=96:=by simpa using hm
  rcases hb with e|e|e <;> rw [e] <;> decide
 by_cases h2:l[k]=96
 ·rw [if_pos h2] at h ⊢
  by_cases h3:Lib.indexByte (l.drop (k+1)) 96 < 0
  ·rw [if_pos h3] at h;exact absurd rfl h
  rw [if_neg h3]
  obtain⟨n,hn⟩:=Int.eq_ofNat_of_zero_le (Int.not_lt.1 h3)
  have hs:=(Lib.indexByte_some hn).1
  rw [List.getElem?_drop] at hs
  refine⟨k+1+n,by rw [hn];show (k:Int)+n+2=_;omega,?_⟩
  rw [hs];decide
 rw [if_neg h2] at h ⊢
 by_cases h3:(readQ l l[k] l.length 0 ⟨k+1,[],false⟩).1=true
 ·rw [if_pos h3]
  obtain⟨j,e1,e2⟩:=read_last l l[k] _ _ _ _ (Prod.ext h3 rfl:readQ l l[k] l.length 0 ⟨k+1,[],false⟩=(true,(readQ l l[k] l.length 0 ⟨k+1,[],false⟩).2))
  refine⟨j,by show ((readQ l l[k] l.length 0 ⟨k+1,[],false⟩).2.k:Int)=_;rw [e1];omega,?_⟩
  rw [e2];exact hq
 ·rw [if_neg h3] at h;exact absurd rfl h
theorem signs_ascii:∀ x∈signs,∀ b∈x,b.toNat < 128:=by decide
structure LexAt (s:List UInt8) (k t:Nat) (kd:UInt8):Prop where
 lt:k < t
 le:t≤s.length
 kind:kindK s k=((kd.toNat:Int),(t:Int))
 some_:kd≠0
 loud:silentB kd=false
 fr:Bd s k
 till:Bd s t
 bom:(dec (s.drop k)).1≠65279
 blank:([32,9,13,10]:List UInt8).contains (s[k]?.getD 0)=false
theorem lex_at (h:Snd s) {k t:Nat}{kd:UInt8} (hk:k < s.length) (hK:kindK s k=((kd.toNat:Int),(t:Int))) (h0:kd≠0) (hq:silentB kd=false):LexAt s k t kd:=by
 have hz:∀ n:Int,(kd.toNat:Int)=n→n=0∨n=10∨n=11∨n=12→False:=fun n h1 h2=>by
  have e:kd.toNat=0∨kd.toNat=10∨kd.toNat=11∨kd.toNat=12:=by omega
  rcases e with e|e|e|e
  ·exact h0 (UInt8.toNat_inj.1 e)
  ·rw [silent_of (.inl (UInt8.toNat_inj.1 e))] at hq;cases hq
  ·rw [silent_of (.inr (.inl (UInt8.toNat_inj.1 e)))] at hq;cases hq
  ·rw [silent_of (.inr (.inr (UInt8.toNat_inj.1 e)))] at hq;cases hq
 have hkd:(kindK s k).1≠0:=by rw [hK];exact fun e=>hz _ e (.inl rfl)
 obtain⟨_,tt,_,_,f3,f4,f5⟩:=kindK_fit s k hk hkd
 rw [hK] at f3
 have hlt:k < t:=by simp only at f3;omega
 have hle:t≤s.length:=by simp only at f3;omega
 have hne:=ne_drop hk
 suffices hS:Bd s k∧Bd s t∧((dec (s.drop k)).1≠65279)∧([32,9,13,10]:List UInt8).contains (s[k]?.getD 0)=false from ⟨hlt,hle,hK,h0,hq,hS.1,hS.2.1,hS.2.2.1,hS.2.2.2⟩
 obtain⟨b,hb⟩:∃ b,s[k]?=some b:=⟨_,List.getElem?_eq_getElem hk⟩
 have hd:∃ r,s.drop k=b::r:=⟨s.drop (k+1),by rw [List.drop_eq_getElem_cons hk];rw [List.getElem?_eq_getElem hk] at hb;cases hb;rfl⟩
 obtain⟨r,hd⟩:=hd
 rw [hb,Option.getD_some]
 unfold kindK at hK
 by_cases c0:((readR s k).1==65279)=true
 ·rw [if_pos c0] at hK;exact (hz 10 (congrArg Prod.fst hK).symm (.inr (.inl rfl))).elim
 rw [if_neg c0] at hK
 by_cases c1:blankB (readR s k).1=true
 ·rw [if_pos c1] at hK;exact (hz 10 (congrArg Prod.fst hK).symm (.inr (.inl rfl))).elim
 rw [if_neg c1] at hK
 have hnb:([32,9,13,10]:List UInt8).contains b=false:=by
  cases hc:([32,9,13,10]:List UInt8).contains b with
  | false=>rfl
  | true =>
   exfalso
   apply c1
   have hc:b=32∨b=9∨b=13∨b=10:=by simpa using hc
   rcases hc with rfl|rfl|rfl|rfl
   all_goals rw [readR_one hd hk (by decide)];decide
 have asc:b.toNat < 128→Bd s k∧(dec (s.drop k)).1≠65279:=fun hlt128=>by
  refine⟨bd_lead h hk (by rw [hb,Option.getD_some];omega),?_⟩
  rw [hd,dec_one hlt128]
  show b.toNat≠65279
  omega
 by_cases c2:Lib.hasPrefix (s.drop k) [47,47]=true
 ·rw [if_pos c2] at hK
  have:(kd.toNat:Int)=11:=by
   split at hK
   ·exact (congrArg Prod.fst hK).symm
   ·exact (congrArg Prod.fst hK).symm
  exact (hz 11 this (.inr (.inr (.inl rfl)))).elim
 rw [if_neg c2] at hK
 by_cases c3:Lib.hasPrefix (s.drop k) [47,42]=true
 ·rw [if_pos c3] at hK
  split at hK
  ·exact (hz 12 (congrArg Prod.fst hK).symm (.inr (.inr (.inr rfl)))).elim
  ·exact (hz 0 (congrArg Prod.fst hK).symm (.inl rfl)).elim
 rw [if_neg c3] at hK
 by_cases c4:letterB (readR s k).1=true
 ·rw [if_pos c4] at hK
  have hw:t=k+wordN (s.drop k):=by have:=congrArg Prod.snd hK;simp only at this;omega
  have hzr:letterB 0=false:=by decide
  have hr:=(readR_some hk (fun e=>by rw [e,hzr] at c4;cases c4)).1
  have hv:(dec (s.drop k)).1≠65533:=fun e=>by
   rw [hr,e] at c4
   exact absurd c4 (by rw [show ((65533:Nat):Int)=65533 from rfl,letterE];decide)
  have hbd:=bd_valid h hk (.inl hv)
  refine⟨hbd,?_,fun e=>c0 (by rw [hr,e];rfl),hnb⟩
  rw [hw]
  unfold wordN
  exact word_bd h (by omega) _ 0 hbd (by omega) (by omega)
 rw [if_neg c4] at hK
 by_cases c5:((readR s k).1==59)=true
 ·rw [if_pos c5] at hK
  have e:(readR s k).1=59:=by simpa using c5
  have hr:=(readR_some hk (by omega)).1
  obtain⟨b2,t2,hb2,hdb⟩:=dec_ascii hne (by omega)
  have hbb:b=b2:=by rw [hb2] at hd;cases hd;rfl
  have hlt:b.toNat < 128:=by rw [hbb];omega
  have ht:t=k+1:=by have:=congrArg Prod.snd hK;simp only at this;omega
  refine⟨(asc hlt).1,?_,(asc hlt).2,hnb⟩
  rw [ht]
  exact bd_ascii h hk (by rw [hb,Option.getD_some];exact hlt)
 rw [if_neg c5] at hK
 by_cases c6:((Num.scanA s k).2.2 != 15)=true
 ·rw [if_pos c6] at hK
  have e1:=congrArg Prod.fst hK
  have e2:=congrArg Prod.snd hK
  simp only at e1 e2
  have hs0:=scan_ok (l:=s) (k:=k) (by rw [e1];exact fun e=>hz _ e (.inl rfl))
  have hbb:=begins_byte hs0.2
  rw [hb,Option.getD_some] at hbb
  refine⟨(asc hbb).1,?_,(asc hbb).2,hnb⟩
  have hE:Num.runF (Num.contL s (Num.hexB s k) k) (s.length - k) k=t:=by
   unfold Num.scanA at e1 e2
   rw [if_pos hs0.2] at e1 e2
   simp only [Int.toNat_natCast] at e1 e2
   unfold Num.scanR at e1 e2
   simp only at e1 e2
   split at e2
   ·simp only at e2
    unfold Num.endR at e2
    omega
   ·rename_i c;rw [if_neg c] at e1;exact absurd e1.symm (fun e=>hz _ e (.inl rfl))
  have hall:=runF_all (Num.contL s (Num.hexB s k) k) (s.length - k) k (t - 1) (by omega) (by rw [hE];omega)
  have:=bd_ascii h (p:=t - 1) (by omega) (cont_byte hall)
  rwa [show t - 1+1=t by omega] at this
 rw [if_neg c6] at hK
 by_cases c7:((beginQ s k).e != 15)=true
 ·rw [if_pos c7] at hK
  have e1:=congrArg Prod.fst hK
  have e2:=congrArg Prod.snd hK
  simp only at e1 e2
  have hbq:=quote_byte hk (by simpa using c7)
  rw [hb,Option.getD_some] at hbq
  have hbb:b.toNat < 128:=by
   have hb:b=39∨b=34∨b=96:=by simpa using hbq
   rcases hb with rfl|rfl|rfl <;> decide
  obtain⟨j,j1,j2⟩:=begin_last hk (by rw [e1];exact fun e=>hz _ e (.inl rfl))
  refine⟨(asc hbb).1,?_,(asc hbb).2,hnb⟩
  have ht:t=j+1:=by omega
  rw [ht]
  exact bd_ascii h (by omega) j2
 rw [if_neg c7] at hK
 by_cases c8:decide (0 < signN (s.drop k))=true
 ·rw [if_pos c8] at hK
  have e2:=congrArg Prod.snd hK
  simp only at e2
  have h1:0 < signN (s.drop k):=of_decide_eq_true c8
  have ht:t=k+signN (s.drop k):=by omega
  have hm:signs.contains ((s.drop k).take (signN (s.drop k)))=true:=by
   have hh:signN (s.drop k)=signN (s.drop k):=rfl
   conv at hh=>lhs;unfold signN
   exact (signFrom_spec _ _ _ hh).2.1 h1
  have hm:(s.drop k).take (signN (s.drop k))∈signs:=by simpa using hm
  have hall:=signs_ascii _ hm
  have hat:∀ j,j < signN (s.drop k)→(s[k+j]?.getD 0).toNat < 128:=fun j hj=>by
   have g:s[k+j]?=some (s[k+j]'(by omega)):=List.getElem?_eq_getElem (by omega)
   rw [g,Option.getD_some]
   apply hall
   apply List.mem_of_getElem? (i:=j)
   rw [List.getElem?_take,if_pos hj,List.getElem?_drop,g]
  have hbb:=hat 0 h1
  rw [Nat.add_zero,hb,Option.getD_some] at hbb
  refine⟨(asc hbb).1,?_,(asc hbb).2,hnb⟩
  have:=bd_ascii h (p:=k+(signN (s.drop k) - 1)) (by omega) (hat _ (by omega))
  rw [ht]
  rwa [show k+(signN (s.drop k) - 1)+1=k+signN (s.drop k) by omega] at this
 ·rw [if_neg c8] at hK;exact (hz 0 (congrArg Prod.fst hK).symm (.inl rfl)).elim
end
section
variable {s u:List UInt8}
def TkWell (s:List UInt8) (t:Tk):Prop:=t.kind=9∨LexAt s t.fr t.to t.kind
def wtx (s:List UInt8) (t:Tk):List UInt8:=if t.kind=9 then [59] else (s.drop t.fr).take (t.to - t.fr)
def wrt (s:List UInt8):List Tk→List UInt8
 | []=>[]
 | t::r=>32::(wtx s t++wrt s r)
def wlx (s:List UInt8):Nat→List Tk→List Tk
 | _,[]=>[]
 | o,t::r=>⟨10,o,o+1⟩::⟨t.kind,o+1,o+1+(wtx s t).length⟩::wlx s (o+1+(wtx s t).length) r
def wtk (s:List UInt8):Nat→List Tk→List Tk
 | _,[]=>[]
 | o,t::r=>⟨t.kind,o+1,o+1+(wtx s t).length⟩::wtk s (o+1+(wtx s t).length) r
theorem wtk_len (s:List UInt8):∀ (L:List Tk) (o:Nat),(wtk s o L).length=L.length
 | [],_=>rfl
 | t::r,o=>by rw [wtk,List.length_cons,wtk_len s r,List.length_cons]
theorem lexF_at (l:List UInt8):∀ (f k:Nat) (acc r:List Tk),lexF l f k acc=.ok r→(∀ t∈acc,t.fr < l.length∧kindK l t.fr=((t.kind.toNat:Int),(t.to:Int))∧t.kind≠0)→∀ t∈r,t.fr < l.length∧kindK l t.fr=((t.kind.toNat:Int),(t.to:Int))∧t.kind≠0
 | 0,k,acc,r,h,ha=>by rw [lexF] at h;cases h;exact ha
 | f+1,k,acc,r,h,ha=>by
  rw [lexF] at h
  split at h
  ·rename_i hkl
   split at h
   ·cases h
   ·rename_i hz
    refine lexF_at l f _ _ r h (fun t ht=>?_)
    rw [List.mem_append,List.mem_singleton] at ht
    rcases ht with ht|rfl
    ·exact ha t ht
    ·obtain⟨f1,f2,_⟩:=tkAt_fit hkl hz
     exact⟨hkl,Prod.ext f1 f2,fun e=>hz (by rw [f1,e];rfl)⟩
  ·cases h;exact ha
theorem semiF_tok (s:List UInt8):∀ (l:List Tk) (st:Option Nat × List Tk),(∀ t∈l,silentB t.kind=false→TkWell s t)→(∀ t∈st.2,TkWell s t)→∀ t∈flushS (semiF s l st),TkWell s t
 | [],st,_,h=>by
  rw [semiF]
  unfold flushS
  split
  ·exact h
  ·intro t ht
   rw [List.mem_append,List.mem_singleton] at ht
   rcases ht with ht|rfl
   ·exact h t ht
   ·exact .inl rfl
 | x::l,st,h0,h=>by
  rw [semiF]
  refine semiF_tok s l _ (fun t ht=>h0 t (List.mem_cons_of_mem _ ht)) ?_
  unfold semiStep
  split
  ·split
   ·show ∀ t∈flushS st,TkWell s t
    unfold flushS
    split
    ·exact h
    ·intro t ht
     rw [List.mem_append,List.mem_singleton] at ht
     rcases ht with ht|rfl
     ·exact h t ht
     ·exact .inl rfl
   ·exact h
  ·rename_i hq
   intro t ht
   simp only [List.mem_append,List.mem_singleton] at ht
   rcases ht with ht|rfl
   ·exact h t ht
   ·exact h0 _ (List.mem_cons_self ..) (by simpa using hq)
def LastOk (s:List UInt8) (L:List Tk):Prop:=∀ t,L.getLast?=some t→endsB t.kind (tkText s t)=false
theorem semiF_last (s:List UInt8):∀ (l:List Tk) (st:Option Nat × List Tk),(st.1=none→LastOk s st.2)→LastOk s (flushS (semiF s l st))
 | [],st,h=>by
  rw [semiF]
  unfold flushS
  split
  ·rename_i e;exact h e
  ·intro t ht
   rw [List.getLast?_append] at ht
   simp at ht
   subst ht
   rfl
 | x::l,st,h=>by
  rw [semiF]
  refine semiF_last s l _ ?_
  unfold semiStep
  split
  ·split
   ·intro _
    show LastOk s (flushS st)
    unfold flushS
    split
    ·rename_i e;exact h e
    ·intro t ht
     rw [List.getLast?_append] at ht
     simp at ht
     subst ht
     rfl
   ·exact h
  ·intro e t ht
   simp only at e ht
   rw [List.getLast?_append] at ht
   simp at ht
   subst ht
   split at e
   ·cases e
   ·rename_i c;simpa using c
inductive Chn:Nat→List Tk→Nat→Prop where
 | nil (k:Nat):Chn k [] k
 | cons (t:Tk) (r:List Tk) (e:Nat):t.fr < t.to→Chn t.to r e→Chn t.fr (t::r) e
theorem Chn.snoc {k e:Nat}{A:List Tk} (h:Chn k A e):∀ {t:Tk},t.fr=e→t.fr < t.to→Chn k (A++[t]) t.to:=by
 induction h with
 | nil k=>intro t h1 h2;subst h1;exact .cons t [] _ h2 (.nil _)
 | cons x r e h1 _ ih=>intro t h2 h3;exact .cons x _ _ h1 (ih h2 h3)
theorem lexF_chn (l:List UInt8):∀ (f k:Nat) (acc r:List Tk),lexF l f k acc=.ok r→k≤l.length→Chn 0 acc k→∃ e,e≤l.length∧Chn 0 r e
 | 0,k,acc,r,h,hk,ha=>by rw [lexF] at h;cases h;exact⟨k,hk,ha⟩
 | f+1,k,acc,r,h,hk,ha=>by
  rw [lexF] at h
  split at h
  ·rename_i hkl
   split at h
   ·cases h
   ·rename_i hz
    obtain⟨f1,f2,f3,f4⟩:=tkAt_fit hkl hz
    exact lexF_chn l f _ _ r h f4 (ha.snoc rfl f3)
  ·cases h;exact⟨k,hk,ha⟩
theorem wrt_append (s:List UInt8):∀ (a b:List Tk),wrt s (a++b)=wrt s a++wrt s b
 | [],b=>rfl
 | t::a,b=>by rw [List.cons_append,wrt,wrt_append s a b,wrt];simp
theorem wtx_le (s:List UInt8) (t:Tk) (h:t.fr < t.to):(wtx s t).length≤t.to - t.fr:=by
 unfold wtx
 split
 ·show 1≤_;omega
 ·rw [List.length_take];omega
theorem wrt_flush (s:List UInt8) (st:Option Nat × List Tk):(wrt s (flushS st)).length=(wrt s st.2).length+(if st.1=none then 0 else 2):=by
 obtain⟨E,out⟩:=st
 cases E with
 | none=>rfl
 | some n=>simp only [flushS,wrt_append,List.length_append];rfl
theorem semiF_len (s:List UInt8):∀ (l:List Tk) (k e:Nat) (st:Option Nat × List Tk),Chn k l e→(wrt s (flushS (semiF s l st))).length+4*k≤(wrt s st.2).length+2+4*e∧(st.1=none→(wrt s (flushS (semiF s l st))).length+4*k≤(wrt s st.2).length+4*e)∧k≤e
 | [],k,e,st,h=>by
  cases h
  rw [semiF,wrt_flush]
  refine⟨by split <;> omega,fun h=>by rw [if_pos h];omega,Nat.le_refl _⟩
 | x::l,k,e,st,h=>by
  cases h with
  | cons _ _ _ h1 h2 =>
  rw [semiF]
  obtain⟨i1,i2,i3⟩:=semiF_len s l x.to e (semiStep s x st) h2
  have hw:=wtx_le s x h1
  have hfl:=wrt_flush s st
  by_cases c:silentB x.kind=true
  ·by_cases c2:nlB (tkText s x)=true
   ·have e1:semiStep s x st=(none,flushS st):=by unfold semiStep;rw [if_pos c,if_pos c2]
    rw [e1] at i1 i2 ⊢
    have i2:=i2 rfl
    simp only at i1 i2
    rw [hfl] at i1 i2
    refine⟨?_,fun h=>?_,by omega⟩
    ·split at i2 <;> omega
    ·rw [if_pos h] at i2;omega
   ·have e1:semiStep s x st=st:=by unfold semiStep;rw [if_pos c,if_neg c2]
    rw [e1] at i1 i2 ⊢
    exact⟨by omega,fun h=>by have:=i2 h;omega,by omega⟩
  ·have e1:(semiStep s x st).2=st.2++[x]:=by unfold semiStep;rw [if_neg c]
   have e2:(wrt s (st.2++[x])).length=(wrt s st.2).length+(1+(wtx s x).length):=by
    rw [wrt_append,List.length_append]
    simp [wrt]
    omega
   rw [e1,e2] at i1
   exact⟨by omega,fun _=>by omega,by omega⟩
structure ToksOk (s:List UInt8) (L:List Tk):Prop where
 snd:Snd s
 toks:∀ t∈L,TkWell s t
 last:LastOk s L
 len:(wrt s L).length≤4*s.length
theorem semi_toks {L:List Tk} (h:semiR s=.ok L):ToksOk s L:=by
 unfold semiR at h
 split at h
 ·cases h
 ·rename_i A hA
  cases h
  unfold allR at hA
  split at hA
  ·cases hA
  ·split at hA
   ·cases hA
   ·rename_i hc
    have hS:=snd_of hc
    have hat:=lexF_at s _ _ _ _ hA (fun t ht=>by cases ht)
    obtain⟨e,he,hch⟩:=lexF_chn s _ _ _ _ hA (Nat.zero_le _) (.nil 0)
    obtain⟨_,i2,_⟩:=semiF_len s A 0 e (none,[]) hch
    have i2:=i2 rfl
    refine⟨hS,semiF_tok s A (none,[]) (fun t ht hq=>?_) (fun t ht=>by cases ht),semiF_last s A (none,[]) (fun _ t ht=>by simp at ht),?_⟩
    ·obtain⟨a1,a2,a3⟩:=hat t ht
     exact .inr (lex_at hS a1 a2 a3 hq)
    ·have:(wrt s ([]:List Tk)).length=0:=rfl
     simp only at i2
     omega
theorem wtx_tok {t:Tk} (h:LexAt s t.fr t.to t.kind) (h9:t.kind≠9):∃ b r,wtx s t=b::r∧([32,9,13,10]:List UInt8).contains b=false∧s.drop t.fr=wtx s t++s.drop t.to∧(wtx s t).length=t.to - t.fr:=by
 have hlt:=h.lt
 have hle:=h.le
 have e:wtx s t=(s.drop t.fr).take (t.to - t.fr):=by unfold wtx;rw [if_neg h9]
 obtain⟨d,hd⟩:∃ d,t.to - t.fr=d+1:=⟨t.to - t.fr - 1,by omega⟩
 have hx:s.drop t.fr=s[t.fr]::s.drop (t.fr+1):=List.drop_eq_getElem_cons (by omega)
 refine⟨s[t.fr],(s.drop (t.fr+1)).take d,?_,?_,?_,?_⟩
 ·rw [e,hd,hx,List.take_succ_cons]
 ·have:=h.blank
  rwa [List.getElem?_eq_getElem (by omega),Option.getD_some] at this
 ·rw [e]
  have:=List.take_append_drop (t.to - t.fr) (s.drop t.fr)
  rw [List.drop_drop,show t.fr+(t.to - t.fr)=t.to by omega] at this
  exact this.symm
 ·rw [e,List.length_take,List.length_drop];omega
theorem kind_semi {l r:List UInt8}{k:Nat} (hd:l.drop k=59::r) (hk:k < l.length):kindK l k=(9,(k:Int)+1):=by
 have hR:=readR_one hd hk (by decide)
 have hp1:Lib.hasPrefix (59::r) [47,47]=false:=rfl
 have hp2:Lib.hasPrefix (59::r) [47,42]=false:=rfl
 have hl:letterB ((59:UInt8).toNat:Int)=false:=by decide +kernel
 unfold kindK
 rw [hR,hd,hp1,hp2,hl]
 rfl
theorem wtx_ne {t:Tk} (h:TkWell s t):∃ b r,wtx s t=b::r∧([32,9,13,10]:List UInt8).contains b=false:=by
 by_cases h9:t.kind=9
 ·exact⟨59,[],by unfold wtx;rw [if_pos h9],by decide⟩
 ·obtain⟨b,r,h1,h2,_⟩:=wtx_tok (h.resolve_left h9) h9
  exact⟨b,r,h1,h2⟩
theorem stp_wrt (r:List UInt8) (L:List Tk):Stp r (wrt s L):=by
 cases L with
 | nil=>exact .inl rfl
 | cons t L=>exact .inr (.inl ⟨_,rfl⟩)
theorem lex_wr:∀ (L:List Tk) (f o:Nat) (acc:List Tk),(∀ t∈L,TkWell s t)→u.drop o=wrt s L→(wrt s L).length≤f→lexF u f o acc=.ok (acc++wlx s o L)
 | [],f,o,acc,_,hd,_=>by
  have:¬ o < u.length:=fun h=>ne_drop h hd
  rw [lexF_end this]
  simp [wlx]
 | t::L,f,o,acc,hT,hd,hf=>by
  have ht:=hT t (.head _)
  obtain⟨b,r,hb,hbl⟩:=wtx_ne ht
  have hlen:=congrArg List.length hd
  rw [wrt] at hd hf hlen
  simp only [List.length_drop,List.length_cons,List.length_append] at hlen hf
  have hw1:(wtx s t).length=r.length+1:=by rw [hb];rfl
  obtain⟨f,rfl⟩:∃ g,f=g+2:=⟨f - 2,by omega⟩
  have hd1:u.drop (o+1)=wtx s t++wrt s L:=by rw [← List.drop_drop,hd];rfl
  have hd2:u.drop (o+1+(wtx s t).length)=wrt s L:=by rw [← List.drop_drop,hd1,List.drop_left]
  have hk1:kindK u o=(10,(o:Int)+1):=kind_blank (b:=b) (r:=r++wrt s L) (by rw [hd,hb];rfl) (by omega) hbl
  have hk2:kindK u (o+1)=((t.kind.toNat:Int),((o+1+(wtx s t).length:Nat):Int))∧t.kind≠0:=by
   by_cases h9:t.kind=9
   ·have e:wtx s t=[59]:=by unfold wtx;rw [if_pos h9]
    rw [e] at hd1
    refine⟨?_,by rw [h9];decide⟩
    rw [kind_semi (r:=wrt s L) hd1 (by omega),h9,e]
    rfl
   ·have hL:=ht.resolve_left h9
    obtain⟨_,_,_,_,h3,h4⟩:=wtx_tok hL h9
    have hK:=hL.kind
    have hlt:=hL.lt
    rw [show t.to=t.fr+(wtx s t).length by omega] at hK
    exact⟨kind_move h3 hd1 (by have:=hL.le;omega) (by omega) (stp_wrt _ L) hK hL.some_ hL.loud,hL.some_⟩
  rw [lex_step (kd:=10) (t:=o+1) (by omega) (by rw [hk1];rfl) (by decide)]
  rw [lex_step (kd:=t.kind) (t:=o+1+(wtx s t).length) (by omega) hk2.1 hk2.2]
  rw [lex_wr L f _ _ (fun x hx=>hT x (.tail _ hx)) hd2 (by omega)]
  simp [wlx]
theorem silent_tok {t:Tk} (h:TkWell s t):silentB t.kind=false:=by
 rcases h with h|h
 ·rw [h];rfl
 ·exact h.loud
theorem semi_wr_go:∀ (L:List Tk) (o:Nat) (E:Option Nat) (out:List Tk),(∀ t∈L,TkWell s t)→u.drop o=wrt s L→(L=[]→E=none)→(∀ t,L.getLast?=some t→endsB t.kind (wtx s t)=false)→flushS (semiF u (wlx s o L) (E,out))=out++wtk s o L
 | [],o,E,out,_,_,hE,_=>by rw [hE rfl];simp [wlx,wtk,semiF,flushS]
 | t::L,o,E,out,hT,hd,_,hla=>by
  have ht:=hT t (.head _)
  rw [wrt] at hd
  have hd0:u.drop o=[32]++(wtx s t++wrt s L):=hd
  have hd1:u.drop (o+1)=wtx s t++wrt s L:=by rw [← List.drop_drop,hd];rfl
  have hd2:u.drop (o+1+(wtx s t).length)=wrt s L:=by rw [← List.drop_drop,hd1,List.drop_left]
  have h1:semiStep u ⟨10,o,o+1⟩ (E,out)=(E,out):=by
   have hx:tkText u ⟨10,o,o+1⟩=[32]:=tkText_at hd0
   unfold semiStep
   rw [if_pos (show silentB 10=true by decide),hx,if_neg (by decide)]
  have h2:semiStep u ⟨t.kind,o+1,o+1+(wtx s t).length⟩ (E,out)=(if endsB t.kind (wtx s t) then some (o+1+(wtx s t).length) else none,out++[⟨t.kind,o+1,o+1+(wtx s t).length⟩]):=by
   have hx:tkText u ⟨t.kind,o+1,o+1+(wtx s t).length⟩=wtx s t:=tkText_at hd1
   unfold semiStep
   rw [if_neg (show ¬ silentB t.kind=true by rw [silent_tok ht];decide),hx]
  show flushS (semiF u (wlx s _ L) (semiStep u _ (semiStep u _ (E,out))))=_
  rw [h1,h2,semi_wr_go L _ _ _ (fun x hx=>hT x (.tail _ hx)) hd2 (fun e=>by rw [if_neg];rw [hla t (by rw [e];rfl)];decide) (fun x hx=>hla x (by cases L with|nil=>simp at hx|cons y L=>rw [List.getLast?_cons_cons];exact hx))]
  simp [wtk]
theorem cl_wrt (hS:Snd s):∀ (L:List Tk),(∀ t∈L,TkWell s t)→Cl (wrt s L)
 | [],_=>.nil
 | t::L,hT=>by
  have ht:=hT t (.head _)
  have hw:Cl (wtx s t):=by
   by_cases h9:t.kind=9
   ·have e:wtx s t=[59]:=by unfold wtx;rw [if_pos h9]
    rw [e];exact cl_byte (by decide) (by decide)
   ·have hL:=ht.resolve_left h9
    have hlt:=hL.lt
    have e:wtx s t=(s.take t.to).drop t.fr:=by unfold wtx;rw [if_neg h9,List.drop_take]
    rw [e]
    exact cl_piece hS hL.till hL.le (t.to - t.fr) t.fr (Nat.le_refl _) hL.fr (by omega) (fun e _=>by have:=hL.bom;rwa [e,List.drop_zero] at this)
  rw [wrt]
  exact Cl.append (x:=[32]) (cl_byte (by decide) (by decide)) (hw.append (cl_wrt hS L (fun x hx=>hT x (.tail _ hx))))
theorem semi_wr {L:List Tk} (h:semiR s=.ok L) (hl:s.length≤16000):semiR (wrt s L)=.ok (wtk s 0 L):=by
 obtain⟨h1,h2,h3,h4⟩:=semi_toks h
 have hA:allR (wrt s L)=.ok (wlx s 0 L):=by
  unfold allR
  rw [if_neg (by omega),cl_clean (cl_wrt h1 L h2),if_neg (by omega),lex_wr L _ 0 [] h2 rfl (Nat.le_refl _)]
  rfl
 unfold semiR
 rw [hA]
 show TokR.ok _=_
 rw [semi_wr_go L 0 none [] h2 rfl (fun _=>rfl) (fun t ht=>?_)]
 ·rfl
 ·have:=h3 t ht
  unfold wtx
  split
  ·rename_i e;rw [e];rfl
  ·exact this
end
end Go.Proofs.YtiifmpgpfijdgaaGreatDoor
