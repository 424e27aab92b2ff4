import Derived.Test.YtegbdigfbklkaaaGreatDoorQAW
import Derived.Test.YtegbdigfbklkaaaGreatDoorQAT
import Derived.Test.YtegbdigfbklkaaaGreatDoorQAG
import Derived.Test.YtegbdigfbklkaaaGreatDoorQAA
import Derived.Maps.AppendAt
namespace Go.Proofs.YtegbdigfbklkaaaGreatDoor
set_option linter.all false
set_option maxHeartbeats 40000000
set_option maxRecDepth 100000
section
def kidsI (l:List Pt3):List Int:=l.map fun p=>(p.kids:Int)
theorem kidsI_append (a b:List Pt3):kidsI (a++b)=kidsI a++kidsI b:=List.map_append ..
mutual
theorem ends_tree (E:Env):∀ (t:Tr) (r:List Int) (i:Nat) (o st:List Nat),Grd.endsL r (i+cnt t)=some (o,st)→∃ o',Grd.endsL (kidsI (parts E t)++r) i=some (o',i::st)
 | .mk k wd f t ks,r,i,o,st,h=>by
  obtain⟨o',st',h1,h2⟩:=ends_trees E ks r (i+1) o st (by rw [show i+1+cntL ks=i+cnt (.mk k wd f t ks) by simp only [cnt];omega];exact h)
  have e0:kidsI (parts E (.mk k wd f t ks))=(ks.length:Int)::kidsI (partsL E ks):=by rw [parts];rfl
  rw [e0,List.cons_append,Grd.endsL,h1]
  simp only []
  have e:(st'++st).drop ((ks.length:Int)).toNat=st:=by rw [Int.toNat_natCast,← h2,List.drop_left]
  rw [if_pos ⟨by omega,by rw [List.length_append];omega⟩,e]
  exact⟨_,rfl⟩
theorem ends_trees (E:Env):∀ (ts:List Tr) (r:List Int) (i:Nat) (o st:List Nat),Grd.endsL r (i+cntL ts)=some (o,st)→∃ o' st',Grd.endsL (kidsI (partsL E ts)++r) i=some (o',st'++st)∧st'.length=ts.length
 | [],r,i,o,st,h=>⟨o,[],h,rfl⟩
 | t::ts,r,i,o,st,h=>by
  obtain⟨o1,st1,h1,h2⟩:=ends_trees E ts r (i+cnt t) o st (by rw [Nat.add_assoc];exact h)
  obtain⟨o2,h3⟩:=ends_tree E t (kidsI (partsL E ts)++r) i o1 (st1++st) h1
  refine⟨o2,i::st1,?_,by simp [h2]⟩
  rw [partsL,kidsI_append,List.append_assoc]
  exact h3
end
theorem wellL_tree (E:Env) (t:Tr):Grd.wellL (kidsI (parts E t))=true:=by
 obtain⟨o,h⟩:=ends_tree E t [] 0 [] [] rfl
 rw [List.append_nil] at h
 unfold Grd.wellL
 rw [h]
 rfl
theorem arity_all:∀ n:Fin 69,arityI (n.val:Int)=(((arT (UInt8.ofNat n.val)).1:Int),(arT (UInt8.ofNat n.val)).2):=by decide +kernel
theorem arity_eq {k:UInt8} (h:k≤68):arityI (k.toNat:Int)=(((arT k).1:Int),(arT k).2):=by
 have h2:k.toNat≤68:=h
 have:=arity_all ⟨k.toNat,by omega⟩
 simpa using this
theorem part_ok {k:UInt8}{n:Nat}{w:List UInt8} (hk:k≤68) (hn:okN k n=true) (hw:spellB k.toNat w=true):partOk ⟨k,n,w⟩=true:=by
 have h2:k.toNat≤68:=hk
 unfold partOk
 simp only [arity_eq hk,hw,Bool.and_true]
 unfold okN at hn
 generalize arT k=ar at *
 obtain⟨least,more⟩:=ar
 simp only [Bool.or_eq_true,beq_iff_eq,Bool.and_eq_true,decide_eq_true_eq] at hn
 simp only [Bool.and_eq_true,Bool.not_eq_true',decide_eq_false_iff_not,Bool.and_eq_false_iff,Bool.not_eq_false']
 rcases hn with rfl|⟨rfl,hn⟩
 ·exact⟨⟨by omega,by omega⟩,.inl (by omega)⟩
 ·exact⟨⟨by omega,by omega⟩,.inr rfl⟩
def Spelt (E:Env):Prop:=∀ k wd,spelled E k wd=true→spellB (k.toNat:Int) (partW E k wd)=true
mutual
theorem parts_all (E:Env) (hE:Spelt E):∀ t:Tr,Lies t→Sh t→Sp E t→∀ x∈parts E t,partOk (ptG x)=true
 | .mk k wd f t ks,h1,h2,h3,x,hx=>by
  rw [parts,List.mem_cons] at hx
  rcases hx with rfl|hx
  ·exact part_ok h1.1 h2.1 (hE k wd h3.1)
  ·exact partsL_all E hE ks wd f t h1.2.2.2 h2.2 h3.2 x hx
theorem partsL_all (E:Env) (hE:Spelt E):∀ (ts:List Tr) (wd:Int) (lo hi:Nat),LiesIn wd lo hi ts→Shs ts→Sps E ts→∀ x∈partsL E ts,partOk (ptG x)=true
 | [],_,_,_,_,_,_,x,hx=>by rw [partsL] at hx;cases hx
 | t::ts,wd,lo,hi,h1,h2,h3,x,hx=>by
  rw [partsL,List.mem_append] at hx
  rcases hx with hx|hx
  ·exact parts_all E hE t h1.2.2.1 h2.1 h3.1 x hx
  ·exact partsL_all E hE ts wd _ hi h1.2.2.2 h2.2 h3.2 x hx
end
theorem checkL_tree (E:Env) (hE:Spelt E) {t:Tr} (h1:Lies t) (h2:Sh t) (h3:Sp E t):checkL ((parts E t).map ptG)=true:=by
 unfold checkL
 have e:((parts E t).map ptG).map Grd.Pt.n=kidsI (parts E t):=by
  rw [List.map_map];rfl
 rw [e,wellL_tree,Bool.true_and,List.all_eq_true]
 intro p hp
 obtain⟨x,hx,rfl⟩:=List.mem_map.1 hp
 exact parts_all E hE t h1 h2 h3 x hx
end
section
def tkW (s:List UInt8) (t:Tk):List UInt8:=(s.take t.to).drop t.fr
structure TokSp (s:List UInt8) (t:Tk):Prop where
 name:t.kind=1→nameB (tkW s t)=true
 lit:3≤t.kind.toNat→t.kind.toNat≤7→(valueQ (tkW s t)).2=0∨Num.kindL (tkW s t)≠0
variable {E:Env}
theorem text_at {n:Nat}{t:Tk} (h:E.l[n]?=some t):E.text (n:Int)=tkW E.s t:=by
 unfold Env.text
 rw [if_neg (by omega),Int.toNat_natCast,h];rfl
theorem kind_at {n:Nat}{t:Tk} (h:E.l[n]?=some t):E.kind (n:Int)=t.kind:=by
 unfold Env.kind
 rw [if_neg (by omega),Int.toNat_natCast,h]
theorem text_word {wd:Int}{w:List UInt8} (h:E.word wd=w) (h0:w≠[]) (h1:w≠[59]):E.text wd=w:=by
 unfold Env.word at h
 unfold Env.text
 by_cases hn:wd < 0
 ·rw [if_pos hn] at h;exact absurd h.symm h0
 rw [if_neg hn] at h ⊢
 cases hl:E.l[wd.toNat]? with
 | none=>rw [hl] at h;exact absurd h.symm h0
 | some t =>
  rw [hl] at h
  simp only at h ⊢
  split at h
  ·exact absurd h.symm h1
  ·split at h
   ·exact h
   ·exact absurd h.symm h0
theorem none_all:∀ n:Fin 256,n.val≠26→n.val≠27→spW (UInt8.ofNat n.val) []=true→n.val≠45∧spellB (n.val:Int) []=true:=by decide +kernel
theorem spellB_none {k:UInt8} (h6:k≠26) (h7:k≠27) (h:spW k []=true):k≠45∧spellB (k.toNat:Int) []=true:=by
 have:=none_all ⟨k.toNat,k.toNat_lt⟩ (fun e=>h6 (UInt8.toNat_inj.1 e)) (fun e=>h7 (UInt8.toNat_inj.1 e)) (by simpa using h)
 exact⟨fun e=>this.1 (by subst e;rfl),this.2⟩
theorem level_words {w:List UInt8} (h:1≤levelW w):w∈[[124,124],[38,38],[61,61],[33,61],[60],[60,61],[62],[62,61],[43],[45],[124],[94],[42],[47],[37],[60,60],[62,62],[38],[38,94]]:=by
 unfold levelW at h
 simp only [List.mem_cons,List.not_mem_nil,or_false]
 by_cases h1:w=[124,124]
 ·exact .inl h1
 rw [if_neg h1] at h
 by_cases h2:w=[38,38]
 ·exact .inr (.inl h2)
 rw [if_neg h2] at h
 split at h
 ·rename_i c;rcases c with c|c|c|c|c|c <;> simp [c]
 ·split at h
  ·rename_i c;rcases c with c|c|c|c <;> simp [c]
  ·split at h
   ·rename_i c;rcases c with c|c|c|c|c|c|c <;> simp [c]
   ·omega
def wordsOf (k:UInt8):List (List UInt8) :=
 if k=3∨k=4 then [[105,109,112,111,114,116],[99,111,110,115,116],[118,97,114],[116,121,112,101]]
 else if k=36 then [[43],[45],[33],[94],[38],[60,45]]
 else if k=37 then [[124,124],[38,38],[61,61],[33,61],[60],[60,61],[62],[62,61],[43],[45],[124],[94],[42],[47],[37],[60,60],[62,62],[38],[38,94]]
 else if k=45 then [[99,104,97,110],[60,45]]
 else if k=52 then [[43,43],[45,45]]
 else if k=53 then [[61],[58,61],[43,61],[45,61],[42,61],[47,61],[37,61],[38,61],[124,61],[94,61],[60,60,61],[62,62,61],[38,94,61]]
 else if k=57 then [[98,114,101,97,107],[99,111,110,116,105,110,117,101],[103,111,116,111],[102,97,108,108,116,104,114,111,117,103,104]]
 else if k=5 then [[46]] else if k=7 then [[61]] else if k=15∨k=34 then [[46,46,46]] else if k=66 then [[61],[58,61]] else []
theorem spW_words {k:UInt8}{w:List UInt8} (h0:w≠[]) (h:spW k w=true):w∈wordsOf k:=by
 have hf:(w==[])=false:=by simpa using h0
 unfold spW at h
 unfold wordsOf
 by_cases c0:k=3∨k=4
 ·rw [if_pos c0] at h ⊢;simpa using h
 rw [if_neg c0] at h ⊢
 by_cases c1:k=36
 ·rw [if_pos c1] at h ⊢;simpa using h
 rw [if_neg c1] at h ⊢
 by_cases c2:k=37
 ·rw [if_pos c2] at h ⊢;exact level_words (of_decide_eq_true h)
 rw [if_neg c2] at h ⊢
 by_cases c3:k=45
 ·rw [if_pos c3] at h ⊢;simpa using h
 rw [if_neg c3] at h ⊢
 by_cases c4:k=52
 ·rw [if_pos c4] at h ⊢;simpa using h
 rw [if_neg c4] at h ⊢
 by_cases c5:k=53
 ·rw [if_pos c5] at h ⊢;unfold assigns at h;simpa using h
 rw [if_neg c5] at h ⊢
 by_cases c6:k=57
 ·rw [if_pos c6] at h ⊢;simpa using h
 rw [if_neg c6] at h ⊢
 by_cases c7:k=5
 ·rw [if_pos c7] at h ⊢;simpa [hf] using h
 rw [if_neg c7] at h ⊢
 by_cases c8:k=7
 ·rw [if_pos c8] at h ⊢;simpa [hf] using h
 rw [if_neg c8] at h ⊢
 by_cases c9:k=15∨k=34
 ·rw [if_pos c9] at h ⊢;simpa [hf] using h
 rw [if_neg c9] at h ⊢
 by_cases c10:k=66
 ·rw [if_pos c10] at h ⊢;simpa [hf] using h
 rw [if_neg c10] at h ⊢
 rw [hf] at h
 cases h
theorem words_all:∀ n:Fin 256,∀ w∈wordsOf (UInt8.ofNat n.val),w≠[59]∧(n.val≠45→spellB (n.val:Int) w=true):=by decide +kernel
theorem kind_some {wd:Int}{c:UInt8} (h:E.kind wd=c) (h0:c≠0):∃ (n:Nat) (t:Tk),wd=(n:Int)∧E.l[n]?=some t∧t.kind=c:=by
 unfold Env.kind at h
 by_cases hn:wd < 0
 ·rw [if_pos hn] at h;exact absurd h.symm h0
 rw [if_neg hn] at h
 obtain⟨n,rfl⟩:=Int.eq_ofNat_of_zero_le (Int.not_lt.1 hn)
 rw [Int.toNat_natCast] at h
 cases hl:E.l[n]? with
 | none=>rw [hl] at h;exact absurd h.symm h0
 | some t=>rw [hl] at h;exact⟨n,t,rfl,hl,h⟩
theorem spelt_of (hT:∀ t∈E.l,TokSp E.s t):Spelt E:=by
 intro k wd h
 by_cases h26:k=26
 ·subst h26
  have h1:E.named wd=true:=h
  obtain⟨n,t,rfl,ht,hk⟩:=kind_some (eq_of_beq h1) (by decide)
  have e:partW E 26 (n:Int)=tkW E.s t:=by unfold partW;rw [if_neg (by decide)];exact text_at ht
  rw [e]
  exact (hT t (List.mem_of_getElem? ht)).name hk
 by_cases h27:k=27
 ·subst h27
  have h1:E.literal wd=true:=h
  unfold Env.literal at h1
  simp only [Bool.and_eq_true,decide_eq_true_eq] at h1
  obtain⟨n,t,rfl,ht,hk⟩:=kind_some (E:=E) (wd:=wd) rfl (fun e=>by rw [e] at h1;exact absurd h1.1 (by decide))
  rw [← hk] at h1
  have e:partW E 27 (n:Int)=tkW E.s t:=by unfold partW;rw [if_neg (by decide)];exact text_at ht
  rw [e]
  have:=(hT t (List.mem_of_getElem? ht)).lit h1.1 h1.2
  show ((valueQ (tkW E.s t)).2==0||Num.kindL (tkW E.s t) != 0)=true
  rcases this with h|h
  ·rw [h];rfl
  ·rw [Bool.or_eq_true];right;simpa using h
 unfold spelled at h
 rw [if_neg h26,if_neg h27] at h
 by_cases h0:wd=-1
 ·subst h0
  rw [if_pos rfl] at h
  obtain⟨h45,hs⟩:=spellB_none h26 h27 h
  have e:partW E k (-1)=[]:=by unfold partW;rw [if_neg h45];rfl
  rw [e];exact hs
 rw [if_neg h0] at h
 simp only [Bool.and_eq_true,bne_iff_ne,ne_eq,decide_eq_true_eq] at h
 obtain⟨⟨h1,h2⟩,h3⟩:=h
 have hm:=spW_words h2 h3
 obtain⟨h4,h5⟩:=words_all ⟨k.toNat,k.toNat_lt⟩ (E.word wd) (by simpa using hm)
 have ht:=text_word (E:=E) (wd:=wd) rfl h2 h4
 by_cases h45:k=45
 ·subst h45
  have hw:E.word wd=[99,104,97,110]∨E.word wd=[60,45]:=by simpa [wordsOf] using hm
  unfold partW
  rw [if_pos rfl,ht]
  rcases hw with hw|hw
  ·rw [hw]
   rw [if_neg (by decide)]
   split <;> decide +kernel
  ·rw [hw,if_pos rfl];decide +kernel
 ·have e:partW E k wd=E.word wd:=by unfold partW;rw [if_neg h45];exact ht
  rw [e]
  exact h5 (fun e=>h45 (UInt8.toNat_inj.1 e))
end
section
theorem tkW_cut (s:List UInt8) (t:Tk) (h:t.fr≤t.to):tkW s t=(s.drop t.fr).take (t.to - t.fr):=by unfold tkW;rw [List.drop_take]
theorem letter_err:letterB 65533=false:=by decide
theorem digit_err:digitB 65533=false:=by decide
theorem word_chars (T:List UInt8):∀ (f p:Nat),p≤T.length→T.length≤p+f→(p=0→letterB (dec T).1=true) →
  (∀ g,nameF (T.take (wordFrom T f p)) g p=true)∧(∀ g,badFrom (T.take (wordFrom T f p)) g p=-1)
 | 0,p,h1,h2,_=>by
  rw [wordFrom,List.take_length]
  exact⟨fun g=>nameF_end (by omega),fun g=>badFrom_end (by omega)⟩
 | f+1,p,h1,h2,h3=>by
  by_cases hp:p < T.length
  ·have hne:T.drop p≠[]:=by intro e;have:=congrArg List.length e;simp only [List.length_drop,List.length_nil] at this;omega
   have hw:=dec_wid' hne
   simp only [List.length_drop] at hw
   have hpos:=dec_pos hne
   by_cases c:(letterB (dec (T.drop p)).1||digitB (dec (T.drop p)).1)=true
   ·have e:wordFrom T (f+1) p=wordFrom T f (p+(dec (T.drop p)).2):=by rw [wordFrom,if_pos hp,if_pos c]
    have hge:=wordFrom_ge T f (p+(dec (T.drop p)).2) (by omega)
    have hle:=wordFrom_le T f (p+(dec (T.drop p)).2) (by omega)
    obtain⟨i1,i2⟩:=word_chars T f (p+(dec (T.drop p)).2) (by omega) (by omega) (fun e=>by omega)
    rw [e]
    generalize wordFrom T f (p+(dec (T.drop p)).2)=W at *
    have hr:(dec (T.drop p)).1≠65533:=fun e=>by
     rw [e] at c
     have h1:=letter_err
     have h2:=digit_err
     exact absurd c (by rw [show ((65533:Nat):Int)=65533 from rfl,h1,h2];decide)
    have hd:dec ((T.take W).drop p)=dec (T.drop p):=by
     rw [List.drop_take]
     exact dec_local hne (by omega) (by rw [List.length_drop];omega) (.inl hr)
    have hpl:p < (T.take W).length:=by rw [List.length_take];omega
    refine⟨fun g=>?_,fun g=>?_⟩
    ·cases g with
     | zero=>rfl
     | succ g =>
      rw [nameF,if_pos hpl,hd]
      have hc:(letterB (dec (T.drop p)).1||(decide (p≠0)&&digitB (dec (T.drop p)).1))=true:=by
       by_cases h0:p=0
       ·subst h0
        rw [List.drop_zero,h3 rfl];rfl
       ·have:decide (p≠0)=true:=decide_eq_true h0
        rw [this,Bool.true_and];exact c
      rw [if_pos hc]
      exact i1 g
    ·cases g with
     | zero=>rfl
     | succ g =>
      rw [badFrom,if_pos hpl,hd,if_neg (fun h=>hr h.1)]
      exact i2 g
   ·have e:wordFrom T (f+1) p=p:=by rw [wordFrom,if_pos hp,if_neg c]
    rw [e]
    have hn:¬ p < (T.take p).length:=by rw [List.length_take];omega
    exact⟨fun g=>nameF_end hn,fun g=>badFrom_end hn⟩
  ·have e:wordFrom T (f+1) p=T.length:=by rw [wordFrom,if_neg hp]
   rw [e,List.take_length]
   exact⟨fun g=>nameF_end (by omega),fun g=>badFrom_end (by omega)⟩
theorem beginQ_kind (l:List UInt8) (a:Int):(beginQ l a).k=0∨(beginQ l a).k=6∨(beginQ l a).k=7:=by
 unfold beginQ
 split
 ·split
  ·exact .inl rfl
  ·split
   ·split
    ·exact .inl rfl
    ·exact .inr (.inr rfl)
   ·split
    ·simp only
     split
     ·exact .inr (.inr rfl)
     ·exact .inr (.inl rfl)
    ·exact .inl rfl
 ·exact .inl rfl
theorem tkAt_sp (l:List UInt8) (k:Nat) (hk:k < l.length) (h:(kindK l k).1≠0):TokSp l (tkAt l k):=by
 obtain⟨f1,f2,f3,f4⟩:=tkAt_fit hk h
 have hne:l.drop k≠[]:=by intro e;have:=congrArg List.length e;simp only [List.length_drop,List.length_nil] at this;omega
 have key:∀ (kd:UInt8) (t:Nat),kindK l k=((kd.toNat:Int),(t:Int))→(tkAt l k).kind=kd∧tkW l (tkAt l k)=(l.take t).drop k:=fun kd t e=>by
  rw [e] at f1 f2
  have a:(tkAt l k).kind=kd:=UInt8.toNat_inj.1 (by simp only at f1;omega)
  have b:(tkAt l k).to=t:=by simp only at f2;omega
  exact⟨a,by unfold tkW;rw [b];rfl⟩
 have other:∀ (kd:UInt8) (t:Nat),kindK l k=((kd.toNat:Int),(t:Int))→kd≠1→(7 < kd.toNat∨kd.toNat < 3)→TokSp l (tkAt l k):=fun kd t e h1 h2=>by
  obtain⟨a,_⟩:=key kd t e
  exact⟨fun e=>absurd (a.symm.trans e) h1,fun h3 h4=>by rw [a] at h3 h4;omega⟩
 obtain⟨KD,TT,g1,g2,g3,g4,g5⟩:=kindK_fit l k hk h
 have hkk:kindK l k=((KD.toNat:Int),(TT:Int)):=Prod.ext g1 g3
 unfold kindK at h
 by_cases c0:((readR l k).1==65279)=true
 ·have e:kindK l k=(10,k+(readR l k).2):=by unfold kindK;rw [if_pos c0]
  have:KD=10:=UInt8.toNat_inj.1 (by rw [e] at g1;show KD.toNat=10;simp only at g1;omega)
  subst this
  exact other 10 TT hkk (by decide) (.inl (by decide))
 rw [if_neg c0] at h
 by_cases c1:blankB (readR l k).1=true
 ·have e:(kindK l k).1=10:=by unfold kindK;rw [if_neg c0,if_pos c1]
  have:KD=10:=UInt8.toNat_inj.1 (by rw [e] at g1;show KD.toNat=10;omega)
  subst this
  exact other 10 TT hkk (by decide) (.inl (by decide))
 rw [if_neg c1] at h
 by_cases c2:Lib.hasPrefix (l.drop k) [47,47]=true
 ·have e:(kindK l k).1=11:=by unfold kindK;rw [if_neg c0,if_neg c1,if_pos c2];split <;> rfl
  have:KD=11:=UInt8.toNat_inj.1 (by rw [e] at g1;show KD.toNat=11;omega)
  subst this
  exact other 11 TT hkk (by decide) (.inl (by decide))
 rw [if_neg c2] at h
 by_cases c3:Lib.hasPrefix (l.drop k) [47,42]=true
 ·have e:(kindK l k).1=12:=by
   unfold kindK;rw [if_neg c0,if_neg c1,if_neg c2,if_pos c3]
   rw [if_pos c3] at h
   split
   ·rfl
   ·rename_i c;rw [if_neg c] at h;exact absurd rfl h
  have:KD=12:=UInt8.toNat_inj.1 (by rw [e] at g1;show KD.toNat=12;omega)
  subst this
  exact other 12 TT hkk (by decide) (.inl (by decide))
 rw [if_neg c3] at h
 by_cases c4:letterB (readR l k).1=true
 ·have e:kindK l k=(wordK l k,((k+wordN (l.drop k):Nat):Int)):=by unfold kindK;rw [if_neg c0,if_neg c1,if_neg c2,if_neg c3,if_pos c4]
  by_cases hw:wordB ((l.drop k).take (wordN (l.drop k)))=true
  ·have e2:wordK l k=2:=by unfold wordK;rw [if_pos hw]
   rw [e2] at e
   exact other 2 _ e (by decide) (.inr (by decide))
  ·have e2:wordK l k=1:=by unfold wordK;rw [if_neg hw]
   rw [e2] at e
   obtain⟨a,b⟩:=key 1 _ e
   refine⟨fun _=>?_,fun h3=>by rw [a] at h3;exact absurd h3 (by decide)⟩
   have hz:letterB 0=false:=by decide
   have hr:=(readR_some hk (fun e=>by rw [e,hz] at c4;cases c4)).1
   rw [b,List.drop_take,Nat.add_sub_cancel_left]
   have hT:wordN (l.drop k)=wordFrom (l.drop k) (l.drop k).length 0:=rfl
   have hl:letterB (dec (l.drop k)).1=true:=by rw [← hr];exact c4
   obtain⟨i1,i2⟩:=word_chars (l.drop k) (l.drop k).length 0 (Nat.zero_le _) (by omega) (fun _=>hl)
   rw [← hT] at i1 i2
   have hn0:(l.drop k).take (wordN (l.drop k))≠[]:=fun e9=>by
    have h1:=congrArg List.length e9
    simp only [List.length_take,List.length_drop,List.length_nil] at h1
    have e5:(kindK l k).2=((k+wordN (l.drop k):Nat):Int):=by rw [e]
    rw [e5] at f2
    omega
   unfold nameB
   rw [if_neg]
   ·exact i1 _
   ·rintro (h|h|h)
    ·exact hn0 (eq_of_beq h)
    ·exact hw h
    ·unfold badR at h
     rw [i2] at h
     exact absurd h (by decide)
 rw [if_neg c4] at h
 by_cases c5:((readR l k).1==59)=true
 ·have e:kindK l k=(9,(k:Int)+1):=by unfold kindK;rw [if_neg c0,if_neg c1,if_neg c2,if_neg c3,if_neg c4,if_pos c5]
  have:KD=9:=UInt8.toNat_inj.1 (by rw [e] at g1;show KD.toNat=9;simp only at g1;omega)
  subst this
  exact other 9 TT hkk (by decide) (.inl (by decide))
 rw [if_neg c5] at h
 by_cases c6:((Num.scanA l k).2.2 != 15)=true
 ·have e:kindK l k=((Num.scanA l k).1,(Num.scanA l k).2.1):=by unfold kindK;rw [if_neg c0,if_neg c1,if_neg c2,if_neg c3,if_neg c4,if_neg c5,if_pos c6]
  rw [if_pos c6] at h
  unfold Num.scanA at e h
  by_cases hb:Num.beginsL l k=true
  ·rw [if_pos hb] at e h
   simp only [Int.toNat_natCast] at e h
   unfold Num.scanR at e h
   simp only at e h
   by_cases hz:Num.kindL ((l.drop k).take (Num.endR l (Num.hexB l k) k - k))≠0
   ·rw [if_pos hz] at e
    have e2:kindK l k=((KD.toNat:Int),((Num.endR l (Num.hexB l k) k:Nat):Int)):=by
     rw [e];refine Prod.ext ?_ rfl
     rw [e] at g1;exact g1
    obtain⟨a,b⟩:=key KD _ e2
    refine⟨fun e3=>?_,fun _ _=>.inr ?_⟩
    ·have hK:=kindL_range ((l.drop k).take (Num.endR l (Num.hexB l k) k - k))
     rw [e] at g1
     simp only at g1
     have:KD.toNat=1:=by rw [a] at e3;rw [e3];rfl
     omega
    ·rw [b,List.drop_take];exact hz
   ·rw [if_neg hz] at h;exact absurd rfl h
  ·rw [if_neg hb] at h;exact absurd rfl h
 rw [if_neg c6] at h
 by_cases c7:((beginQ l k).e != 15)=true
 ·have e:kindK l k=((beginQ l k).k,(beginQ l k).tx):=by unfold kindK;rw [if_neg c0,if_neg c1,if_neg c2,if_neg c3,if_neg c4,if_neg c5,if_neg c6,if_pos c7]
  rw [if_pos c7] at h
  have hv:=value_cut hk h
  rw [e] at g1 g3
  simp only at g1 g3
  obtain⟨a,b⟩:=key KD TT hkk
  rw [g3,Int.toNat_natCast,← b] at hv
  refine⟨fun e3=>?_,fun _ _=>.inl hv⟩
  have hK:=beginQ_kind l k
  have:KD.toNat=1:=by rw [a] at e3;rw [e3];rfl
  omega
 rw [if_neg c7] at h
 by_cases c8:decide (0 < signN (l.drop k))=true
 ·have e:(kindK l k).1=8:=by unfold kindK;rw [if_neg c0,if_neg c1,if_neg c2,if_neg c3,if_neg c4,if_neg c5,if_neg c6,if_neg c7,if_pos c8]
  have:KD=8:=UInt8.toNat_inj.1 (by rw [e] at g1;show KD.toNat=8;omega)
  subst this
  exact other 8 TT hkk (by decide) (.inl (by decide))
 ·rw [if_neg c8] at h;exact absurd rfl h
theorem lexF_sp (l:List UInt8):∀ (f k:Nat) (acc r:List Tk),lexF l f k acc=.ok r→(∀ t∈acc,TokSp l t)→∀ t∈r,TokSp l t
 | 0,k,acc,r,h,ha=>by rw [lexF] at h;cases h;exact ha
 | f+1,k,acc,r,h,ha=>by
  rw [lexF] at h
  split at h
  ·rename_i hkl
   split at h
   ·cases h
   ·rename_i hz
    refine lexF_sp l f _ _ r h (fun t ht=>?_)
    rw [List.mem_append,List.mem_singleton] at ht
    rcases ht with ht|rfl
    ·exact ha t ht
    ·exact tkAt_sp l k hkl hz
  ·cases h;exact ha
theorem semi_sp (s:List UInt8) {t:Tk} (h:t.kind=9):TokSp s t:=⟨fun e=>absurd (h.symm.trans e) (by decide),fun _ h2=>by rw [h] at h2;exact absurd h2 (by decide)⟩
theorem flush_sp (s:List UInt8) {st:Option Nat × List Tk} (h:∀ t∈st.2,TokSp s t):∀ t∈flushS st,TokSp s t:=by
 obtain⟨E,out⟩:=st
 intro t ht
 cases E with
 | none=>exact h t ht
 | some n =>
  simp only [flushS,List.mem_append,List.mem_singleton] at ht
  rcases ht with ht|rfl
  ·exact h t ht
  ·exact semi_sp s rfl
theorem semiF_sp (s:List UInt8):∀ (l:List Tk) (st:Option Nat × List Tk),(∀ t∈l,TokSp s t)→(∀ t∈st.2,TokSp s t)→∀ t∈(semiF s l st).2,TokSp s t
 | [],st,_,h=>h
 | x::l,st,h0,h=>by
  rw [semiF]
  refine semiF_sp s l _ (fun t ht=>h0 t (List.mem_cons_of_mem _ ht)) ?_
  unfold semiStep
  split
  ·split
   ·exact flush_sp s h
   ·exact h
  ·intro t ht
   simp only [List.mem_append,List.mem_singleton] at ht
   rcases ht with ht|rfl
   ·exact h t ht
   ·exact h0 _ (List.mem_cons_self ..)
theorem semiR_sp {s:List UInt8}{l:List Tk} (h:semiR s=.ok l):∀ t∈l,TokSp s t:=by
 unfold semiR at h
 split at h
 ·cases h
 ·rename_i l0 hA
  cases h
  refine flush_sp s (semiF_sp s l0 (none,[]) ?_ (fun t ht=>by cases ht))
  unfold allR at hA
  split at hA
  ·cases hA
  ·split at hA
   ·cases hA
   ·exact lexF_sp s _ _ _ _ hA (fun t ht=>by cases ht)
theorem nestN_ok {s:List UInt8}{l:List Tk}{p:List Int} (h:nestN s=.ok l p):semiR s=.ok l:=by
 unfold nestN at h
 split at h
 ·cases h
 ·rename_i l2 p2 m hW
  cases h
  unfold nestWR at hW
  split at hW
  ·cases hW
  ·rename_i l3 hS
   obtain⟨h1,h2,h3⟩:=semiR_ok hS
   obtain⟨rfl,_⟩:=nestF_ok s l3 l3 0 _ _ _ _ hW (by simp) (by omega) (fun x hx=>by rw [List.eq_of_mem_replicate hx];decide) (fun x hx=>by cases hx) (by omega)
   exact hS
end
section
open Go.RowKit
theorem Rd.below {E:Ev}{c n:Nat}{g:Bool}{w w':World} (h:Rd E c n g w) (hb:Below w.heap.size w w'):Rd E c n g w':=h.later (Fr.below (X:=[]) hb) (fun k m=>by cases m) (.inr (by simp))
theorem kind_any (E:Ev) (c:Nat) (i:Int) (w:World) (h1:w.cell? ⟨c,1,none⟩=some (.slice E.ta E.l.length E.tcap)) (hl:Lie E c w) :
  Calls Tryz.prog 114 #[.pointer (some ⟨c,0,none⟩),.int .i64 i] w fun e w'=>e=.returned (.int .u8 ((E.kind i).toNat:Int))∧Below w.heap.size w w':=by
 by_cases hi:i < 0
 ·have d0:decide (i < 0)=true:=decide_eq_true hi
  have hw:E.kind i=0:=by unfold Env.kind;rw [if_pos hi]
  rw [hw]
  clear hi hw hl
  go_enter Tryz.func114,Tryz.ntmps114
  go_wp2_with fail
  all_goals (go_ret;exact⟨rfl,by first|exact Below.refl _ _|exact (Below.refl _ _).drew⟩)
 ·have d0:decide (i < 0)=false:=decide_eq_false hi
  obtain⟨n,rfl⟩:=Int.eq_ofNat_of_zero_le (Int.not_lt.1 hi)
  by_cases hn:n < E.l.length
  ·have d1:decide ((E.l.length:Int)≤(n:Int))=false:=decide_eq_false (by omega)
   have ht:E.l[n]?=some (E.l[n]):=List.getElem?_eq_getElem hn
   have hw:E.kind (n:Int)=E.l[n].kind:=by
    unfold Env.kind
    rw [if_neg hi]
    simp only [Int.toNat_natCast,ht]
   obtain⟨b,o,hta,_,c0,_,_⟩:=hl.toks n _ ht
   rw [hw]
   generalize E.l[n]=t at *
   rw [hta] at h1
   have b0:(0:Int)≤(n:Int):=by omega
   have b1:(n:Int) < (E.l.length:Int):=by omega
   clear hl ht hta hw
   go_enter Tryz.func114,Tryz.ntmps114
   go_wp2_with fail
   go_ret
   exact⟨rfl,Below.refl _ _⟩
  ·have d1:decide ((E.l.length:Int)≤(n:Int))=true:=decide_eq_true (by omega)
   have hw:E.kind (n:Int)=0:=by unfold Env.kind;rw [if_neg hi];simp only [Int.toNat_natCast,List.getElem?_eq_none (Nat.le_of_not_lt hn)]
   rw [hw]
   clear hw hl
   go_enter Tryz.func114,Tryz.ntmps114
   go_wp2_with fail
   all_goals (go_ret;exact⟨rfl,by first|exact Below.refl _ _|exact (Below.refl _ _).drew⟩)
theorem next_any {E:Ev}{c n:Nat}{g:Bool}{w:World} (h:Rd E c n g w) :
  Calls Tryz.prog 59 #[.pointer (some ⟨c,0,none⟩)] w fun e w'=>e=.returned (.string ⟨(E.word n).toArray⟩)∧Below w.heap.size w w':=by
 obtain⟨h0,h1,h2,h3,h4⟩:=h.cells
 have HW:=Lib.hid (word_any E c (n:Int) w h0 h1 h.lie)
 clear h
 go_enter Tryz.func59,Tryz.ntmps59
 go_wp2_with fail
 refine HW.out.mono ?_
 rintro e w1 ⟨rfl,hb⟩
 go_wp2_with fail
 go_ret
 exact⟨rfl,hb⟩
theorem ended_any {E:Ev}{c n:Nat}{g:Bool}{w:World} (h:Rd E c n g w) :
  Calls Tryz.prog 39 #[.pointer (some ⟨c,0,none⟩)] w fun e w'=>e=.returned (.bool (E.ended n))∧Below w.heap.size w w':=by
 obtain⟨h0,h1,h2,h3,h4⟩:=h.cells
 have hd:((n:Int)==(E.l.length:Int))=E.ended n:=by
  unfold Env.ended
  rw [Bool.eq_iff_iff];simp;omega
 have HD:=Lib.hid hd
 clear h hd
 go_enter Tryz.func39,Tryz.ntmps39
 go_wp2_with fail
 go_region
 go_wp2_with fail
 go_ret
 exact⟨by rw [← HD.out];rfl,(Below.refl _ _).drew⟩
theorem named_any {E:Ev}{c n:Nat}{g:Bool}{w:World} (h:Rd E c n g w) (i:Int) :
  Calls Tryz.prog 80 #[.pointer (some ⟨c,0,none⟩),.int .i64 i] w fun e w'=>e=.returned (.bool (E.named i))∧Below w.heap.size w w':=by
 obtain⟨h0,h1,h2,h3,h4⟩:=h.cells
 have HK:=Lib.hid (kind_any E c i w h1 h.lie)
 have hd:(((E.kind i).toNat:Int)==1)=E.named i:=by
  unfold Env.named
  rw [Bool.eq_iff_iff,beq_iff_eq,beq_iff_eq,← UInt8.toNat_inj]
  show _↔(E.kind i).toNat=1
  omega
 have HD:=Lib.hid hd
 clear h hd
 go_enter Tryz.func80,Tryz.ntmps80
 go_wp2_with fail
 refine HK.out.mono ?_
 rintro e w1 ⟨rfl,hb⟩
 go_wp2_with fail
 go_ret
 exact⟨by rw [← HD.out];rfl,hb⟩
theorem fail_any {E:Ev}{c n:Nat}{g:Bool}{w:World} (h:Rd E c n g w) :
  Calls Tryz.prog 40 #[.pointer (some ⟨c,0,none⟩)] w fun e w'=>e=.panicked [{ v:=.iface 89 (.int .i64 (n:Int)),recovered:=false }]∧w'=w:=by
 obtain⟨h0,h1,h2,h3,h4⟩:=h.cells
 clear h
 go_enter Tryz.func40,Tryz.ntmps40
 go_wp2_with fail
 exact⟨rfl,rfl,rfl⟩
theorem fr_below {w w':World} (c:Nat) (h:Below w.heap.size w w'):Fr [c] w w':=Fr.below h
theorem want_any {E:Ev}{c n:Nat}{g:Bool}{w:World} (h:Rd E c n g w) (x:UInt8) (ws:List UInt8) :
  Calls Tryz.prog 57 #[.pointer (some ⟨c,0,none⟩),.string ⟨(x::ws).toArray⟩] w (Did E c g (want E.toEnv (x::ws) n) w):=by
 have HN:=Lib.hid (next_any h)
 have HR:=Lib.hid h
 have hs:(n:Int)≤1099511627776:=by have:=h.at_;have:=h.lie.small;omega
 cases hw:E.is n (x::ws) with
 | true =>
  have hlt:=is_lt hw
  have hd:(E.word n==x::ws)=true:=hw
  have hr:want E.toEnv (x::ws) n=.ok () (n+1):=by unfold want;rw [if_pos hw]
  rw [hr]
  have HL:=Lib.hid hlt
  clear h hw hr hlt
  go_enter Tryz.func57,Tryz.ntmps57
  go_wp2_with fail
  refine HN.out.mono ?_
  rintro e w1 ⟨rfl,hb⟩
  have hR1:=HR.out.below hb
  obtain⟨h0,h1,h2,h3,h4⟩:=hR1.cells
  have f3:=hR1.free 3
  have HR1:=Lib.hid hR1
  clear hR1
  go_wp2_with fail
  go_end0
  exact⟨rfl,by simpa using HR1.out.moved (n+1) (by have:=HL.out;omega),(fr_below c hb).trans (by simpa using Fr.set (a:=⟨c,3,none⟩))⟩
 | false =>
  have hd:(E.word n==x::ws)=false:=hw
  have hr:want E.toEnv (x::ws) n=.bad n:=by unfold want;rw [if_neg (by rw [hw];decide)]
  rw [hr]
  clear h hw hr
  go_enter Tryz.func57,Tryz.ntmps57
  go_wp2_with fail
  refine HN.out.mono ?_
  rintro e w1 ⟨rfl,hb⟩
  have hR1:=HR.out.below hb
  have HF:=Lib.hid (fail_any hR1)
  have HR1:=Lib.hid hR1
  clear hR1
  go_wp2_with fail
  refine HF.out.mono ?_
  rintro e w2 ⟨rfl,rfl⟩
  exact⟨rfl,rfl,⟨g,HR1.out⟩,fr_below c hb⟩
def May (E:Ev) (c:Nat) (g:Bool) (ws:List UInt8) (n:Nat) (w:World) (e:Ending) (w':World):Prop :=
 e=.returned (.bool (E.is n ws))∧Rd E c (after E.toEnv ws n) g w'∧Fr [c] w w'
theorem maybe_any {E:Ev}{c n:Nat}{g:Bool}{w:World} (h:Rd E c n g w) (x:UInt8) (ws:List UInt8) :
  Calls Tryz.prog 38 #[.pointer (some ⟨c,0,none⟩),.string ⟨(x::ws).toArray⟩] w (May E c g (x::ws) n w):=by
 have HN:=Lib.hid (next_any h)
 have HR:=Lib.hid h
 have hs:(n:Int)≤1099511627776:=by have:=h.at_;have:=h.lie.small;omega
 cases hw:E.is n (x::ws) with
 | true =>
  have hlt:=is_lt hw
  have hd:(E.word n==x::ws)=true:=hw
  have hr:after E.toEnv (x::ws) n=n+1:=by unfold after;rw [if_pos hw]
  have HL:=Lib.hid (And.intro hlt (And.intro hr hw))
  clear h hw hr hlt
  go_enter Tryz.func38,Tryz.ntmps38
  go_wp2_with fail
  refine HN.out.mono ?_
  rintro e w1 ⟨rfl,hb⟩
  have hR1:=HR.out.below hb
  obtain⟨h0,h1,h2,h3,h4⟩:=hR1.cells
  have f3:=hR1.free 3
  have HR1:=Lib.hid hR1
  clear hR1
  go_wp2_with fail
  go_ret
  exact⟨by rw [HL.out.2.2];rfl,by rw [HL.out.2.1];simpa using HR1.out.moved (n+1) (by have:=HL.out.1;omega),(fr_below c hb).trans (by simpa using Fr.set (a:=⟨c,3,none⟩))⟩
 | false =>
  have hd:(E.word n==x::ws)=false:=hw
  have hr:after E.toEnv (x::ws) n=n:=by unfold after;rw [if_neg (by rw [hw];decide)]
  have HL:=Lib.hid (And.intro hr hw)
  clear h hw hr
  go_enter Tryz.func38,Tryz.ntmps38
  go_wp2_with fail
  refine HN.out.mono ?_
  rintro e w1 ⟨rfl,hb⟩
  go_wp2_with fail
  go_ret
  exact⟨by rw [HL.out.2];rfl,by rw [HL.out.1];exact HR.out.below hb,fr_below c hb⟩
def New (E:Ev) (c n:Nat) (g:Bool) (k:UInt8) (wd:Int) (f t:Nat) (w:World) (e:Ending) (w':World):Prop :=
 ∃ p,e=.returned (.pointer (some ⟨p,0,none⟩))∧w.heap.size≤p∧Open w' p k wd f t (.slice none 0 0)∧Rd E c n g w'∧Below w.heap.size w w'
theorem none_any {E:Ev}{c n:Nat}{g:Bool}{w:World} (h:Rd E c n g w) (k:UInt8) :
  Calls Tryz.prog 90 #[.pointer (some ⟨c,0,none⟩),.int .u8 (k.toNat:Int)] w (New E c n g k (-1) n n w):=by
 obtain⟨h0,h1,h2,h3,h4⟩:=h.cells
 have HR:=Lib.hid h
 clear h
 go_enter Tryz.func90,Tryz.ntmps90
 go_wp2_with fail
 go_region
 all_goals (go_wp2_with fail)
 all_goals go_ret
 have hB:=((Below.refl w.heap.size w).alloc (Nat.le_refl _) (Obj.cells #[.int .u8 (k.toNat:Int),.int .i64 (-1),.int .i64 (n:Int),.int .i64 (n:Int),.slice none 0 0] 60)).drew
 exact⟨w.heap.size,rfl,Nat.le_refl _,heap_alloc_new w _,HR.out.below hB,hB⟩
theorem open_any {E:Ev}{c n:Nat}{g:Bool}{w:World} (h:Rd E c n g w) (k:UInt8) :
  Calls Tryz.prog 56 #[.pointer (some ⟨c,0,none⟩),.int .u8 (k.toNat:Int)] w (New E c n g k (-1) n 0 w):=by
 obtain⟨h0,h1,h2,h3,h4⟩:=h.cells
 have HR:=Lib.hid h
 clear h
 go_enter Tryz.func56,Tryz.ntmps56
 go_wp2_with fail
 go_ret
 have hB:=(Below.refl w.heap.size w).alloc (Nat.le_refl _) (Obj.cells #[.int .u8 (k.toNat:Int),.int .i64 (-1),.int .i64 (n:Int),.int .i64 0,.slice none 0 0] 60)
 exact⟨w.heap.size,rfl,Nat.le_refl _,heap_alloc_new w _,HR.out.below hB,hB⟩
theorem leaf_node {w:World}{p:Nat}{k:UInt8}{wd:Int}{f t lo hi:Nat} (h:Open w p k wd f t (.slice none 0 0)) (h1:lo≤p) (h2:p < hi):NodeAt w lo hi p (.mk k wd f t []) :=
 ⟨⟨h1,h2⟩,none,0,[],h,.inl rfl,trivial⟩
theorem leaf_any {E:Ev}{c n:Nat}{g:Bool}{w:World} (h:Rd E c n g w) (k:UInt8) (ok:Bool) (hok:ok=true→n < E.l.length) :
  Calls Tryz.prog 92 #[.pointer (some ⟨c,0,none⟩),.int .u8 (k.toNat:Int),.bool ok] w (Ans E c g (leaf k ok n) w):=by
 have HR:=Lib.hid h
 have hs:(n:Int)≤1099511627776:=by have:=h.at_;have:=h.lie.small;omega
 cases ok with
 | true =>
  have hlt:=hok rfl
  have f3:=h.free 3
  obtain⟨h0,h1,h2,h3,h4⟩:=h.cells
  have HL:=Lib.hid hlt
  clear h hok hlt
  have hM:=HR.out.moved (n+1) (by have:=HL.out;omega)
  obtain⟨m0,m1,m2,m3,m4⟩:=hM.cells
  have hF:Fr [c] w (w.setCell ⟨c,3,none⟩ (.int .i64 ((n+1:Nat):Int))):=Fr.set (a:=⟨c,3,none⟩)
  have HM:=Lib.hid (And.intro hM hF)
  clear hM hF
  rw [show ((n+1:Nat):Int)=(n:Int)+1 from by omega] at m0 m1 m2 m3 m4 HM
  go_enter Tryz.func92,Tryz.ntmps92
  go_wp2_with fail
  generalize w.setCell ⟨c,3,none⟩ (.int .i64 ((n:Int)+1))=w1 at *
  have hn1:(n:Int)+1 - 1=n:=by omega
  clear h0 h1 h2 h3 h4 f3 m0 m1 m2 m4
  go_region
  all_goals (go_wp2_with fail)
  all_goals go_ret
  have hB:=((Below.refl w1.heap.size w1).alloc (Nat.le_refl _) (Obj.cells #[.int .u8 (k.toNat:Int),.int .i64 (n:Int),.int .i64 (n:Int),.int .i64 ((n:Int)+1),.slice none 0 0] 60)).drew
  have hO:Open (w1.alloc (Obj.cells #[.int .u8 (k.toNat:Int),.int .i64 (n:Int),.int .i64 (n:Int),.int .i64 ((n:Int)+1),.slice none 0 0] 60)).drew w1.heap.size k n n (n+1) (.slice none 0 0):=heap_alloc_new w1 _
  exact⟨w1.heap.size,rfl,HM.out.1.below hB,leaf_node hO HM.out.2.size (by simp),HM.out.2.trans (fr_below c hB)⟩
 | false =>
  have HF:=Lib.hid (fail_any h)
  clear h hok
  go_enter Tryz.func92,Tryz.ntmps92
  go_wp2_with fail
  refine HF.out.mono ?_
  rintro e w2 ⟨rfl,rfl⟩
  exact⟨rfl,rfl,⟨g,HR.out⟩,Fr.refl _ _⟩
theorem named_at {E:Env}{n:Nat} (h:E.named n=true):n < E.l.length:=by
 apply Decidable.byContradiction
 intro hn
 rw [named_nil (by omega)] at h
 cases h
theorem quoted_at {E:Env}{n:Nat} (h:E.quoted n=true):n < E.l.length:=by
 apply Decidable.byContradiction
 intro hn
 rw [Env.quoted,kind_nil (by omega)] at h
 cases h
theorem Ans.behind {E:Ev}{c:Nat}{g:Bool}{r:R Tr}{w w1:World}{e:Ending}{w':World} (h:Ans E c g r w1 e w') (hf:Fr [c] w w1):Ans E c g r w e w':=by
 unfold Ans at h ⊢
 cases r with
 | ok t n =>
  obtain⟨p,h1,h2,h3,h4⟩:=h
  exact⟨p,h1,h2,NodeAt.kept (fun _ _ _=>rfl) hf.size (Nat.le_refl _) p t h3,hf.trans h4⟩
 | bad k=>exact⟨h.1,h.2.1,hf.trans h.2.2⟩
 | out=>exact h
theorem quoted_any {E:Ev}{c n:Nat}{g:Bool}{w:World} (h:Rd E c n g w) (i:Int) :
  Calls Tryz.prog 141 #[.pointer (some ⟨c,0,none⟩),.int .i64 i] w fun e w'=>e=.returned (.bool (E.quoted i))∧Below w.heap.size w w':=by
 obtain⟨h0,h1,h2,h3,h4⟩:=h.cells
 have HK:=Lib.hid (kind_any E c i w h1 h.lie)
 have hd:(((E.kind i).toNat:Int)==7)=E.quoted i:=by
  unfold Env.quoted
  rw [Bool.eq_iff_iff,beq_iff_eq,beq_iff_eq,← UInt8.toNat_inj]
  show _↔(E.kind i).toNat=7
  omega
 have HD:=Lib.hid hd
 clear h hd
 go_enter Tryz.func141,Tryz.ntmps141
 go_wp2_with fail
 refine HK.out.mono ?_
 rintro e w1 ⟨rfl,hb⟩
 go_wp2_with fail
 go_ret
 exact⟨by rw [← HD.out];rfl,hb⟩
theorem name_any {E:Ev}{c n:Nat}{g:Bool}{w:World} (h:Rd E c n g w) :
  Calls Tryz.prog 58 #[.pointer (some ⟨c,0,none⟩)] w (Ans E c g (nameT E.toEnv n) w):=by
 obtain⟨h0,h1,h2,h3,h4⟩:=h.cells
 have HR:=Lib.hid h
 have HN:=Lib.hid (named_any h (n:Int))
 clear h h0 h1 h2 h4
 go_enter Tryz.func58,Tryz.ntmps58
 go_wp2_with fail
 refine HN.out.mono ?_
 rintro e w1 ⟨rfl,hb⟩
 have HL:=Lib.hid (leaf_any (HR.out.below hb) 26 (E.named n) (fun h=>named_at h))
 generalize hx:E.named (n:Int)=x at HL ⊢
 go_wp2_with fail
 refine HL.out.mono ?_
 rintro e w2 hA
 have hA2:Ans E c g (nameT E.toEnv n) w e w2:=by
  have:=hA.behind (fr_below c hb)
  rw [← hx] at this;exact this
 clear hA HL HN HR h3 hb hx
 generalize nameT E.toEnv n=r at *
 cases r with
 | ok t m =>
  obtain⟨p,rfl,q1,q2,q3⟩:=hA2
  go_wp2_with fail
  go_ret
  exact⟨p,rfl,q1,q2,q3⟩
 | bad k =>
  obtain⟨rfl,q1,q2⟩:=hA2
  exact⟨rfl,rfl,q1,q2⟩
 | out=>exact hA2.elim
theorem str_any {E:Ev}{c n:Nat}{g:Bool}{w:World} (h:Rd E c n g w) :
  Calls Tryz.prog 125 #[.pointer (some ⟨c,0,none⟩)] w (Ans E c g (strT E.toEnv n) w):=by
 obtain⟨h0,h1,h2,h3,h4⟩:=h.cells
 have HR:=Lib.hid h
 have HN:=Lib.hid (quoted_any h (n:Int))
 clear h h0 h1 h2 h4
 go_enter Tryz.func125,Tryz.ntmps125
 go_wp2_with fail
 refine HN.out.mono ?_
 rintro e w1 ⟨rfl,hb⟩
 have HL:=Lib.hid (leaf_any (HR.out.below hb) 27 (E.quoted n) (fun h=>quoted_at h))
 generalize hx:E.quoted (n:Int)=x at HL ⊢
 go_wp2_with fail
 refine HL.out.mono ?_
 rintro e w2 hA
 have hA2:Ans E c g (strT E.toEnv n) w e w2:=by
  have:=hA.behind (fr_below c hb)
  rw [← hx] at this;exact this
 clear hA HL HN HR h3 hb hx
 generalize strT E.toEnv n=r at *
 cases r with
 | ok t m =>
  obtain⟨p,rfl,q1,q2,q3⟩:=hA2
  go_wp2_with fail
  go_ret
  exact⟨p,rfl,q1,q2,q3⟩
 | bad k =>
  obtain⟨rfl,q1,q2⟩:=hA2
  exact⟨rfl,rfl,q1,q2⟩
 | out=>exact hA2.elim
end
section
open Go.RowKit
def ptrs (ps:List Nat):List Value:=ps.map fun (p:Nat)=>Value.pointer (some ⟨p,0,none⟩)
theorem ptrs_len (ps:List Nat):(ptrs ps).length=ps.length:=by simp [ptrs]
theorem ptrs_one (ps:List Nat):∀ u∈ptrs ps,u.oneCell'=true:=by
 intro u hu
 simp only [ptrs,List.mem_map] at hu
 obtain⟨p,_,rfl⟩:=hu
 rfl
theorem Tryz.infoP:(Tryz.prog.info? 51).map (fun i=>(i.zero,i.size,i.bytes))=some (some (.pointer none),1,8):=by kernel_rfl
def PtrsAt (w:World) (ka:Option Addr) (qs:List Nat):Prop:=qs=[]∨∃ b o,ka=some ⟨b,o,none⟩∧∀ (j p:Nat),qs[j]?=some p→w.cell? ⟨b,o+j,none⟩=some (.pointer (some ⟨p,0,none⟩))
structure Opn (w:World) (lo p:Nat) (k:UInt8) (wd:Int) (f t:Nat) (ps:List Nat) (kv:Value):Prop where
 blk:Open w p k wd f t kv
 row:w.ownsRow lo 51 1 kv ps.length (ptrs ps)
 low:lo≤p
 sep:kv.ownBlock≠some p
theorem Open.cells {w:World}{p:Nat}{k:UInt8}{wd:Int}{f t:Nat}{kv:Value} (h:Open w p k wd f t kv) :
  w.cell? ⟨p,0,none⟩=some (.int .u8 (k.toNat:Int))∧w.cell? ⟨p,1,none⟩=some (.int .i64 wd)∧w.cell? ⟨p,2,none⟩=some (.int .i64 (f:Int))∧w.cell? ⟨p,3,none⟩=some (.int .i64 (t:Int))∧w.cell? ⟨p,4,none⟩=some kv:=by
 have hb:w.heap[p]?=_:=h
 refine⟨?_,?_,?_,?_,?_⟩ <;> simp [World.cell?,hb]
theorem Open.free {w:World}{p:Nat}{k:UInt8}{wd:Int}{f t:Nat}{kv:Value} (h:Open w p k wd f t kv) (i:Nat):w.frozen? ⟨p,i,none⟩=false:=by
 have hb:w.heap[p]?=_:=h
 simp [World.frozen?,hb]
theorem Open.lt {w:World}{p:Nat}{k:UInt8}{wd:Int}{f t:Nat}{kv:Value} (h:Open w p k wd f t kv):p < w.heap.size:=by
 have hb:w.heap[p]?=_:=h
 rcases Nat.lt_or_ge p w.heap.size with h|h
 ·exact h
 ·simp [Array.getElem?_eq_none h] at hb
theorem Open.later {w w':World}{p:Nat}{k:UInt8}{wd:Int}{f t:Nat}{kv:Value}{X:List Nat} (h:Open w p k wd f t kv) (hf:Fr X w w') (hX:p ∉ X):Open w' p k wd f t kv:=hf.at_ hX h
theorem Open.kids {w:World}{p:Nat}{k:UInt8}{wd:Int}{f t:Nat}{kv:Value} (h:Open w p k wd f t kv) (kv':Value):Open (w.setCell ⟨p,4,none⟩ kv') p k wd f t kv':=by
 unfold Open
 rw [heap_setCell_same w p 4 _ _ _ h];rfl
theorem Open.end_ {w:World}{p:Nat}{k:UInt8}{wd:Int}{f t:Nat}{kv:Value} (h:Open w p k wd f t kv) (t':Nat):Open (w.setCell ⟨p,3,none⟩ (.int .i64 (t':Int))) p k wd f t' kv:=by
 unfold Open
 rw [heap_setCell_same w p 3 _ _ _ h];rfl
theorem Open.named_ {w:World}{p:Nat}{k:UInt8}{wd:Int}{f t:Nat}{kv:Value} (h:Open w p k wd f t kv) (wd':Int):Open (w.setCell ⟨p,1,none⟩ (.int .i64 wd')) p k wd' f t kv:=by
 unfold Open
 rw [heap_setCell_same w p 1 _ _ _ h];rfl
theorem Open.kinded {w:World}{p:Nat}{k:UInt8}{wd:Int}{f t:Nat}{kv:Value} (h:Open w p k wd f t kv) (k':UInt8):Open (w.setCell ⟨p,0,none⟩ (.int .u8 (k'.toNat:Int))) p k' wd f t kv:=by
 unfold Open
 rw [heap_setCell_same w p 0 _ _ _ h];rfl
theorem slice_of_row {w:World}{base:Nat}{e:TypeId}{size:Nat}{v:Value}{n:Nat}{xs:List Value} (h:w.ownsRow base e size v n xs):∃ a cap,v=.slice a n cap:=by
 rcases h.2 with ⟨rfl,rfl⟩|⟨g,cap,cur,rfl,_⟩
 ·exact⟨_,_,rfl⟩
 ·exact⟨_,_,rfl⟩
theorem row_later {w w':World}{X:List Nat}{lo:Nat}{kv:Value}{n:Nat}{xs:List Value}{e:TypeId} (h:w.ownsRow lo e 1 kv n xs) (hf:Fr X w w') (hX:∀ b∈X,kv.ownBlock≠some b):w'.ownsRow lo e 1 kv n xs:=by
 rcases h.2 with h0|⟨g,cap,cur,hv,hg,hh,hr⟩
 ·exact⟨h.1,.inl h0⟩
 ·refine⟨h.1,.inr ⟨g,cap,cur,hv,hg,?_,hr⟩⟩
  exact hf.at_ (fun m=>hX g m (by rw [hv];rfl)) hh
def rowX (kv:Value):List Nat:=match kv.ownBlock with|some b=>[b]|none=>[]
def Closed (E:Ev) (c n:Nat) (g:Bool) (lo p:Nat) (k:UInt8) (wd:Int) (f:Nat) (ps:List Nat) (kv:Value) (w:World) (e:Ending) (w':World):Prop :=
 e=.returned (.pointer (some ⟨p,0,none⟩))∧(∃ kv',Opn w' lo p k wd f n ps kv')∧Rd E c n g w'∧Fr (p::rowX kv) w w'
theorem close_any {E:Ev}{c n:Nat}{g:Bool}{w:World} (h:Rd E c n g w) {lo p:Nat}{k:UInt8}{wd:Int}{f t:Nat}{ps:List Nat}{kv:Value} (ho:Opn w lo p k wd f t ps kv) (hlo:c < lo) (hz:E.zo=none∨(E.zb≠p∧kv.ownBlock≠some E.zb))
  (b o:Nat) (qs:List Nat) (mc:Nat) (hq:∀ (j p:Nat),qs[j]?=some p→w.cell? ⟨b,o+j,none⟩=some (.pointer (some ⟨p,0,none⟩))) (hsm:ps.length+qs.length≤1099511627776) :
  Calls Tryz.prog 63 #[.pointer (some ⟨c,0,none⟩),.pointer (some ⟨p,0,none⟩),.slice (some ⟨b,o,none⟩) qs.length mc] w (Closed E c n g lo p k wd f (ps++qs) kv w):=by
 obtain⟨iP,hiP,hz0,hz1,hz2⟩:=info_parts Tryz.infoP
 obtain⟨k0,k1,k2,k3,k4⟩:=ho.blk.cells
 have hlt:=ho.blk.lt
 have hrow:=ho.row
 have HR:=Lib.hid h
 have HO:=Lib.hid ho
 have hnews:∀ (j:Nat) (u:Value),(ptrs qs)[j]?=some u→w.cell? ((Addr.mk b o none).add j)=some u:=by
  intro j u hj
  have had:(Addr.mk b o none).add j=⟨b,o+j,none⟩:=by
   unfold Addr.add
   split
   ·rename_i h;subst h;rfl
   ·rfl
  rw [had]
  simp only [ptrs,List.getElem?_map,Option.map_eq_some_iff] at hj
  obtain⟨q,hq1,rfl⟩:=hj
  exact hq j q hq1
 have hlow:lo≤w.heap.size:=by have:=ho.low;omega
 have HQ:=Lib.hid hnews
 have HZZ:=Lib.hid hz
 clear h ho hq hnews hz
 go_enter Tryz.func63,Tryz.ntmps63
 go_wp2_with (at_builtin;refine wpList_append_own_at _ rfl _ _ 58 rfl lo 51 iP _ 1 8 Tryz.underlying58 hiP hz0 hz1 hz2 rfl (by decide) _ _ _ rfl hrow ⟨b,o,none⟩ qs.length mc (ptrs qs) rfl (by rw [ptrs_len,Nat.mul_one]) HQ.out (ptrs_one qs) (by unfold maxLen;omega) (by omega) hlow ?_)
 intro v1 w1 hown hgrow _ hat
 obtain⟨va,vc,rfl⟩:=slice_of_row hown
 have hF1:Fr (rowX kv) w w1:=Fr.grown hgrow (fun k hk=>by simp [rowX,hk])
 have hpX:p ∉ rowX kv:=by
  have:=HO.out.sep
  unfold rowX
  split
  ·rename_i b' hb';simp;intro e;subst e;exact this hb'
  ·simp
 have hcX:∀ b∈rowX kv,c < b:=by
  intro b' hb'
  unfold rowX at hb'
  split at hb'
  ·rename_i b2 hb2
   simp at hb';subst hb'
   have:=(HO.out.row.lt _ hb2).1;omega
  ·simp at hb'
 have hO1:=HO.out.blk.later hF1 hpX
 have hzX:E.zo=none∨E.zb ∉ rowX kv:=HZZ.out.imp id (fun h m=>by
  unfold rowX at m
  split at m
  ·rename_i b2 hb2
   simp at m
   exact h.2 (m ▸ hb2)
  ·simp at m)
 have hzp:E.zo=none∨E.zb ∉ [p]:=HZZ.out.imp id (fun h m=>h.1 (by simpa using m))
 have hR1:=HR.out.later hF1 hcX hzX
 obtain⟨_,_,_,_,l4⟩:=hO1.cells
 have f4:=hO1.free 4
 have hpv:(Value.slice va (ps.length+qs.length) vc).ownBlock≠some p:=by
  rcases hat with e|e
  ·rw [e];exact HO.out.sep
  ·rw [e];intro x;cases x;omega
 go_upto_region 2 with fail
 have hO2:=hO1.kids (.slice va (ps.length+qs.length) vc)
 have hF2:Fr [p] w1 (w1.setCell ⟨p,4,none⟩ (.slice va (ps.length+qs.length) vc)):=Fr.set (a:=⟨p,4,none⟩)
 have hcp:c < p:=by have:=HO.out.low;omega
 have hR2:=hR1.later hF2 (fun k hk=>by simp at hk;omega) hzp
 clear hzX
 have hrow2:=row_later hown hF2 (fun b' hb'=>by simp at hb';subst hb';exact hpv)
 have hF:=(hF1.weaken (Y:=p::rowX kv) (fun k _ hk=>List.mem_cons_of_mem _ hk)).trans (hF2.weaken (fun k _ hk=>by simp at hk;simp [hk]))
 clear hO1 hR1 l4 f4 hzp hF1 hF2 hown hgrow hat hcX hrow k0 k1 k2 k3 k4
 generalize w1.setCell ⟨p,4,none⟩ (.slice va (ps.length+qs.length) vc)=w2 at *
 obtain⟨h0,h1,h2,h3,h4⟩:=hR2.cells
 obtain⟨l0,l1,l2,l3,l4⟩:=hO2.cells
 have f3:=hO2.free 3
 have HZ:=Lib.hid (And.intro hO2 (And.intro hR2 (And.intro hrow2 (And.intro hF (And.intro hpv hcp)))))
 clear hO2 hR2 hrow2 hF hpv hcp
 go_wp2_with fail
 go_ret
 obtain⟨hO2,hR2,hrow2,hF,hpv,hcp⟩:=HZ.out
 have hF3:Fr [p] w2 (w2.setCell ⟨p,3,none⟩ (.int .i64 (n:Int))):=Fr.set (a:=⟨p,3,none⟩)
 refine⟨rfl,⟨_,hO2.end_ n,?_,HO.out.low,hpv⟩,hR2.later hF3 (fun k hk=>by simp at hk;omega) (HZZ.out.imp id (fun h m=>h.1 (by simpa using m))),hF.trans (hF3.weaken (fun k _ hk=>by simp at hk;simp [hk]))⟩
 have:=row_later hrow2 hF3 (fun b' hb'=>by simp at hb';subst hb';exact hpv)
 simpa [ptrs] using this
end
end Go.Proofs.YtegbdigfbklkaaaGreatDoor
