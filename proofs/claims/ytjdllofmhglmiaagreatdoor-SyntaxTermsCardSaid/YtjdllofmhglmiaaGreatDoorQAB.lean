import Derived.Test.YtjdllofmhglmiaaGreatDoorQAA
namespace Go.Proofs.YtjdllofmhglmiaaGreatDoor
set_option linter.all false
set_option maxHeartbeats 40000000
set_option maxRecDepth 100000
namespace Rf
structure St where
 n:Nat
 b:Option Nat
abbrev O (α:Type):=Option (α × St)
def bnd {α β:Type} (m:O α) (f:α->St->O β):O β:=match m with|none=>none|some (a,s)=>f a s
def St.up (s:St):St:=⟨s.n+1,s.b⟩
def St.ok (s:St):Bool:=s.b.isNone
def vX0 (s:St):St:=⟨s.n,some (s.b.getD s.n)⟩
def zT:Tr:=.mk 0 0 0 0 []
def iX0 {α:Type}:Nat->(α->St->O (Bool × α))->α->St->O α
 | 0,_,_,_=>none
 | k+1,f,a,s=>bnd (f a s) fun p s=>if p.1 then iX0 k f p.2 s else some (p.2,s)
inductive RF where
 | file|group|spec (w:List UInt8)|fn|signature|params|param|tparams|names|union|typ|bracketed (fr:Nat)|members (w:List UInt8)|named|field|elem
 | exprs (h:Bool)|expr (h:Bool)|unary (h:Bool)|operand|primary (h:Bool)|dotted (x:Tr) (fr:Nat)|call (x:Tr) (fr:Nat)|indexed (x:Tr) (fr:Nat)|elements|value
 | stmts|block|stmt|simple (h:Bool)|rest (l:Tr) (fr:Nat) (h:Bool)|ifs|switches|clauses (sort:Nat)|cased (sort:Nat)|selects|fors
section
variable (E:Env) (K:Nat) (S:RF->St->O Tr)
def nx (w:List UInt8) (s:St):Bool:=s.ok&&E.is s.n w
def am (i:Int) (L:List (List UInt8)):Bool:=L.any fun w=>E.word i==w
def ends (s:St):Bool:=E.ended s.n
def tk (w:List UInt8) (s:St):O Unit:=some ((),if nx E w s then s.up else vX0 s)
def lfM (kind:UInt8) (ok:Bool) (s:St):O Tr:=if s.ok&&ok then (if s.n < E.l.length then some (.mk kind s.n s.n (s.n+1) [],s.up) else none) else some (zT,vX0 s)
def DX0 (s:St):O Tr:=lfM E 26 (E.named s.n) s
def yX4 (s:St):O Tr:=lfM E 27 (E.quoted s.n) s
def upM (s:St):O Unit:=if s.n < E.l.length then some ((),s.up) else none
def ret (kind:UInt8) (word:Int) (fr:Nat) (ks:List Tr) (s:St):O Tr:=some (.mk kind word fr s.n ks,s)
def one (kind:UInt8) (word:Int) (fr:Nat) (s:St):O Tr:=bnd (S .typ s) fun t s=>ret kind word fr [t] s
def cX3 (mark shut:List UInt8) (first:List Tr->Bool) (f:St->O Tr):List Tr->St->O (Bool × List Tr):=fun l s =>
 if s.ok&&(first l||!nx E shut s) then bnd (f s) fun x s=>if nx E shut s then some ((true,l++[x]),s) else bnd (tk E mark s) fun _ s=>some ((true,l++[x]),s)
 else some ((false,l),s)
def NX3 (mark:List UInt8) (f:St->O Tr):List Tr->St->O (Bool × List Tr):=fun l s =>
 if nx E mark s then bnd (tk E mark s) fun _ s=>bnd (f s) fun x s=>some ((true,l++[x]),s) else some ((false,l),s)
def WX3 (f:St->O Tr):List Tr->St->O (Bool × List Tr):=fun l s =>
 if nx E [44] s&&!E.is (s.n+1) [93] then bnd (tk E [44] s) fun _ s=>bnd (f s) fun x s=>some ((true,l++[x]),s) else some ((false,l),s)
def KX1 (w:List UInt8) (s:St):O Unit:=if nx E w s then tk E w s else some ((),s)
def MX4 (s:St):O Tr :=
 bnd (tk E [112,97,99,107,97,103,101] s) fun _ s=>bnd (DX0 E s) fun name s=>bnd (tk E [59] s) fun _ s =>
 bnd (iX0 K (fun a s=>if nx E [105,109,112,111,114,116] s then bnd (S .group s) fun x s=>bnd (tk E [59] s) fun _ s=>some ((true,a++[x]),s) else some ((false,a),s)) [] s) fun a s1 =>
 bnd (iX0 K (fun b s=>if s.ok&&am E s.n [[99,111,110,115,116],[118,97,114],[116,121,112,101],[102,117,110,99]] then bnd (if nx E [102,117,110,99] s then S .fn s else S .group s) fun x s=>bnd (tk E [59] s) fun _ s=>some ((true,b++[x]),s) else some ((false,b),s)) [] s1) fun b s =>
 ret 1 (-1) 0 [name,xC 2 a s1.n,xC 2 b s.n] s
def KX3 (s:St):O Tr :=
 bnd (upM E s) fun _ s1 =>
 if nx E [40] s1 then bnd (tk E [40] s1) fun _ s2=>bnd (iX0 K (cX3 E [59] [41] (fun _=>false) (S (.spec (E.word s.n)))) [] s2) fun l s3=>bnd (tk E [41] s3) fun _ s4=>ret 4 s.n s.n l s4
 else bnd (S (.spec (E.word s.n)) s1) fun x s2=>ret 3 s.n s.n [x] s2
def iX8 (n:Nat):Bool:=E.named (n+1)&&(E.named (n+2)||am E (n+2) [[44],[126],[105,110,116,101,114,102,97,99,101],[102,117,110,99],[109,97,112],[99,104,97,110],[115,116,114,117,99,116]])
def jX2 (s:St):O Tr :=
 bnd (DX0 E s) fun name s1 =>
 bnd (if nx E [91] s1&&iX8 E s1.n then S .tparams s1 else some (vA 0 s1.n,s1)) fun params s2 =>
 if nx E [61] s2 then bnd (tk E [61] s2) fun _ s3=>bnd (S .typ s3) fun t s4=>ret 7 s2.n s.n [name,params,t] s4
 else bnd (S .typ s2) fun t s4=>ret 7 (-1) s.n [name,params,t] s4
def ZX1 (w:List UInt8) (s:St):O Tr :=
 if w==[105,109,112,111,114,116] then
  if nx E [46] s then bnd (tk E [46] s) fun _ s1=>bnd (yX4 E s1) fun p s2=>ret 5 s.n s.n [vA 0 s.n,p] s2
  else if E.named s.n then bnd (DX0 E s) fun x s1=>bnd (yX4 E s1) fun p s2=>ret 5 (-1) s.n [x,p] s2
  else bnd (yX4 E s) fun p s1=>ret 5 (-1) s.n [vA 0 s.n,p] s1
 else if w==[116,121,112,101] then jX2 E S s
 else bnd (S .names s) fun names s1 =>
  if nx E [61] s1 then bnd (tk E [61] s1) fun _ s2=>bnd (S (.exprs false) s2) fun v s3=>ret 6 (-1) s.n [names,vA 0 s1.n,v] s3
  else if w==[99,111,110,115,116]&&(nx E [59] s1||nx E [41] s1||ends E s1) then ret 6 (-1) s.n [names,vA 0 s1.n,vA 0 s1.n] s1
  else bnd (S .typ s1) fun t s2 =>
   if w==[99,111,110,115,116]||nx E [61] s2 then bnd (tk E [61] s2) fun _ s3=>bnd (S (.exprs false) s3) fun v s4=>ret 6 (-1) s.n [names,t,v] s4
   else ret 6 (-1) s.n [names,t,vA 0 s2.n] s2
def fnM (s:St):O Tr :=
 bnd (tk E [102,117,110,99] s) fun _ s1=>bnd (if nx E [40] s1 then S .params s1 else some (vA 0 s1.n,s1)) fun recv s2=>bnd (DX0 E s2) fun name s3 =>
 bnd (if nx E [91] s3 then S .tparams s3 else some (vA 0 s3.n,s3)) fun tp s4=>bnd (S .signature s4) fun sig s5 =>
 bnd (if nx E [123] s5 then S .block s5 else some (vA 0 s5.n,s5)) fun body s6=>ret 8 (-1) s.n [recv,name,tp,sig,body] s6
def xX1 (s:St):Bool:=E.named s.n||am E s.n [[91],[42],[115,116,114,117,99,116],[109,97,112],[99,104,97,110],[105,110,116,101,114,102,97,99,101],[102,117,110,99],[60,45]]
def NX0 (s:St):O Tr :=
 bnd (S .params s) fun a s1=>bnd (if nx E [40] s1 then S .params s1 else if s1.ok&&xX1 E s1 then S .typ s1 else some (vA 0 s1.n,s1)) fun b s2=>ret 9 (-1) s.n [a,b] s2
def gX2 (s:St):O Tr :=
 bnd (tk E [40] s) fun _ s1=>bnd (iX0 K (cX3 E [44] [41] (fun _=>false) (S .param)) [] s1) fun l s2=>bnd (tk E [41] s2) fun _ s3=>ret 14 (-1) s.n l s3
def RX0 (i:Int):Int:=if (across E i).2 then (across E i).1 else -1
def FX4 (n:Nat):Bool:=!E.named n||am E (n+1) [[44],[41],[46]]||am E (RX0 E (n+1)) [[44],[41]]
def MX3 (s:St):O Tr :=
 bnd (if FX4 E s.n then some (vA 0 s.n,s) else DX0 E s) fun name s1 =>
 if nx E [46,46,46] s1&&(!FX4 E s.n||!E.named s.n) then bnd (tk E [46,46,46] s1) fun _ s2=>bnd (S .typ s2) fun t s3=>ret 15 s1.n s.n [name,t] s3
 else bnd (S .typ s1) fun t s3=>ret 15 (-1) s.n [name,t] s3
def mX2 (s:St):O Tr:=bnd (S .names s) fun a s1=>bnd (S .union s1) fun u s2=>ret 17 (-1) s.n [a,u] s2
def SX1 (s:St):O Tr :=
 bnd (tk E [91] s) fun _ s1=>bnd (iX0 K (cX3 E [44] [93] List.isEmpty (mX2 S)) [] s1) fun l s2=>bnd (tk E [93] s2) fun _ s3=>ret 16 (-1) s.n l s3
def EX0 (kind:UInt8) (mark:List UInt8) (f:St->O Tr) (s:St):O Tr:=bnd (f s) fun x s1=>bnd (iX0 K (NX3 E mark f) [x] s1) fun l s2=>some (xC kind l s2.n,s2)
def GX2 (s:St):O Tr:=if nx E [126] s then bnd (tk E [126] s) fun _ s1=>bnd (S .typ s1) fun t s2=>ret 19 (-1) s.n [t] s2 else S .typ s
def cX1 (word:Int) (fr:Nat) (x:Tr) (f:St->O Tr) (l:List Tr) (s:St):O Tr :=
 bnd (iX0 K (WX3 E f) l s) fun l s1=>bnd (KX1 E [44] s1) fun _ s2=>bnd (tk E [93] s2) fun _ s3=>ret 30 word fr [x,xC 11 l s1.n] s3
def PX2 (s:St):O Tr :=
 bnd (DX0 E s) fun x s1=>bnd (if nx E [46] s1 then bnd (tk E [46] s1) fun _ s2=>bnd (DX0 E s2) fun y s3=>ret 29 (-1) s.n [x,y] s3 else some (x,s1)) fun x s2 =>
 if nx E [91] s2 then bnd (tk E [91] s2) fun _ s3=>bnd (S .typ s3) fun t s4=>cX1 E K (-1) s.n x (S .typ) [t] s4 else some (x,s2)
def IX5 (s:St):O Tr :=
 if !s.ok||ends E s then some (zT,vX0 s)
 else if E.named s.n then S .named s
 else if E.is s.n [42] then one S 35 (-1) s.n s.up
 else if E.is s.n [40] then bnd (S .typ s.up) fun t s1=>bnd (tk E [41] s1) fun _ s2=>ret 28 (-1) s.n [t] s2
 else if E.is s.n [91] then S (.bracketed s.n) s.up
 else if E.is s.n [109,97,112] then bnd (tk E [91] s.up) fun _ s1=>bnd (S .typ s1) fun k s2=>bnd (tk E [93] s2) fun _ s3=>bnd (S .typ s3) fun v s4=>ret 44 (-1) s.n [k,v] s4
 else if E.is s.n [99,104,97,110] then bnd (KX1 E [60,45] s.up) fun _ s1=>one S 45 s.n s.n s1
 else if E.is s.n [60,45] then bnd (tk E [99,104,97,110] s.up) fun _ s1=>one S 45 s.n s.n s1
 else if E.is s.n [102,117,110,99] then bnd (S .signature s.up) fun t s1=>ret 46 (-1) s.n [t] s1
 else if E.is s.n [115,116,114,117,99,116] then bnd (S (.members [115,116,114,117,99,116]) s.up) fun t s1=>ret 47 (-1) s.n [t] s1
 else if E.is s.n [105,110,116,101,114,102,97,99,101] then bnd (S (.members [105,110,116,101,114,102,97,99,101]) s.up) fun t s1=>ret 48 (-1) s.n [t] s1
 else some (zT,vX0 s)
def dX1 (fr:Nat) (s:St):O Tr :=
 if nx E [93] s then bnd (tk E [93] s) fun _ s1=>one S 43 (-1) fr s1
 else if nx E [46,46,46] s then bnd (tk E [46,46,46] s) fun _ s1=>bnd (tk E [93] s1) fun _ s2=>one S 42 (-1) fr s2
 else bnd (S (.expr false) s) fun n s1=>bnd (tk E [93] s1) fun _ s2=>bnd (S .typ s2) fun t s3=>ret 41 (-1) fr [n,t] s3
def QX1 (w:List UInt8) (s:St):O Tr :=
 bnd (tk E [123] s) fun _ s1=>bnd (iX0 K (cX3 E [59] [125] (fun _=>false) (if w==[115,116,114,117,99,116] then S .field else S .elem)) [] s1) fun l s2=>bnd (tk E [125] s2) fun _ s3=>some (xC (if w==[105,110,116,101,114,102,97,99,101] then 23 else 20) l s2.n,s3)
def shutI (i:Int):Bool:=decide (0<=i)&&(am E i [[59],[125]]||E.quoted i)
def jX8 (n:Nat):Bool:=E.named n&&(shutI E (n+1)||E.is (n+1) [46]||shutI E (RX0 E (n+1)))
def xX4 (s:St):O Tr:=if s.ok&&E.quoted s.n then yX4 E s else some (vA 0 s.n,s)
def nX3 (s:St):O Tr :=
 if nx E [42] s then bnd (tk E [42] s) fun _ s1=>bnd (S .named s1) fun n s2=>bnd (ret 35 (-1) s.n [n] s2) fun z s2=>bnd (xX4 E s2) fun q s3=>ret 22 (-1) s.n [z,q] s3
 else if jX8 E s.n then bnd (S .named s) fun t s1=>bnd (xX4 E s1) fun q s2=>ret 22 (-1) s.n [t,q] s2
 else bnd (S .names s) fun names s1=>bnd (S .typ s1) fun t s2=>bnd (xX4 E s2) fun q s3=>ret 21 (-1) s.n [names,t,q] s3
def OX4 (s:St):O Tr :=
 if E.named s.n&&E.is (s.n+1) [40] then bnd (DX0 E s) fun x s1=>bnd (S .signature s1) fun t s2=>ret 24 (-1) s.n [x,t] s2 else S .union s
def dX3:Nat->List (List UInt8)
 | 0=>[[124,124]]
 | 1=>[[38,38]]
 | 2=>[[61,61],[33,61],[60],[60,61],[62],[62,61]]
 | 3=>[[43],[45],[124],[94]]
 | _=>[[42],[47],[37],[60,60],[62,62],[38],[38,94]]
def uX0 (h:Bool):Nat->St->O Tr
 | 0,s=>S (.unary h) s
 | j+1,s=>bnd (uX0 h j s) fun x s1=>iX0 K (fun x s1=>if s1.ok&&am E s1.n (dX3 (4 - j)) then bnd (uX0 h j s1.up) fun y s2=>bnd (ret 37 s1.n s.n [x,y] s2) fun z s3=>some ((true,z),s3) else some ((false,x),s1)) x s1
def QX2 (h:Bool) (s:St):O Tr :=
 if s.ok&&am E s.n [[43],[45],[33],[94],[38],[60,45]]&&!(E.is s.n [60,45]&&E.is (s.n+1) [99,104,97,110]) then bnd (S (.unary h) s.up) fun x s1=>ret 36 s.n s.n [x] s1
 else if nx E [42] s then bnd (tk E [42] s) fun _ s1=>bnd (S (.unary h) s1) fun x s2=>ret 35 (-1) s.n [x] s2
 else S (.primary h) s
def sX1 (s:St):O Tr :=
 if s.ok&&E.literal s.n then lfM E 27 true s
 else if nx E [40] s then bnd (tk E [40] s) fun _ s1=>bnd (S (.expr false) s1) fun x s2=>bnd (tk E [41] s2) fun _ s3=>ret 28 (-1) s.n [x] s3
 else if nx E [102,117,110,99] s then bnd (tk E [102,117,110,99] s) fun _ s1=>bnd (S .signature s1) fun t s2 =>
  if nx E [123] s2 then bnd (S .block s2) fun b s3=>ret 40 (-1) s.n [t,b] s3 else ret 46 (-1) s.n [t] s2
 else if s.ok&&(am E s.n [[91],[115,116,114,117,99,116],[109,97,112],[99,104,97,110],[105,110,116,101,114,102,97,99,101]]||E.is s.n [60,45]&&E.is (s.n+1) [99,104,97,110]) then S .typ s
 else DX0 E s
def rX2 (x:Tr):Bool :=
 if x.kind==30 then match x.kids with|[]=>false|y::_=>y.kind != 29||!y.kids.isEmpty else x.kind != 29||!x.kids.isEmpty
def yX1 (h:Bool) (s:St):O Tr :=
 bnd (S .operand s) fun x s1=>iX0 K (fun x s1 =>
  if !s1.ok then some ((false,x),s1)
  else if nx E [46] s1 then bnd (S (.dotted x s.n) s1) fun y s2=>some ((true,y),s2)
  else if nx E [40] s1 then bnd (S (.call x s.n) s1) fun y s2=>some ((true,y),s2)
  else if nx E [91] s1 then bnd (S (.indexed x s.n) s1) fun y s2=>some ((true,y),s2)
  else if nx E [123] s1 then (if rX2 x then (if filled h x then bnd (S .elements s1) fun e s2=>bnd (ret 39 (-1) s.n [x,e] s2) fun z s3=>some ((true,z),s3) else some ((false,x),s1)) else none)
  else some ((false,x),s1)) x s1
def yX2 (x:Tr) (fr:Nat) (s:St):O Tr :=
 bnd (tk E [46] s) fun _ s1 =>
 if nx E [40] s1 then bnd (tk E [40] s1) fun _ s2 =>
  if nx E [116,121,112,101] s2 then bnd (tk E [116,121,112,101] s2) fun _ s3=>bnd (tk E [41] s3) fun _ s4=>ret 33 (-1) fr [x] s4
  else bnd (S .typ s2) fun t s3=>bnd (tk E [41] s3) fun _ s4=>ret 32 (-1) fr [x,t] s4
 else bnd (DX0 E s1) fun n s2=>ret 29 (-1) fr [x,n] s2
def hX5 (x:Tr) (fr:Nat) (s:St):O Tr :=
 bnd (tk E [40] s) fun _ s1 =>
 bnd (iX0 K (fun (p:List Tr × Int) s =>
  if s.ok&&!nx E [41] s then bnd (S (.expr false) s) fun y s2 =>
   if nx E [46,46,46] s2 then bnd (tk E [46,46,46] s2) fun _ s3=>bnd (KX1 E [44] s3) fun _ s4=>some ((false,(p.1++[y],(s2.n:Int))),s4)
   else if nx E [41] s2 then some ((true,(p.1++[y],p.2)),s2) else bnd (tk E [44] s2) fun _ s3=>some ((true,(p.1++[y],p.2)),s3)
  else some ((false,p),s)) ([],-1) s1) fun p s2=>bnd (tk E [41] s2) fun _ s3=>ret 34 p.2 fr [x,xC 11 p.1 s1.n] s3
def NX1 (x:Tr) (fr:Nat) (s:St):O Tr :=
 bnd (tk E [91] s) fun _ s1=>bnd (if nx E [58] s1 then some (vA 0 s1.n,s1) else S (.expr false) s1) fun lo s2 =>
 if nx E [58] s2 then bnd (tk E [58] s2) fun _ s3 =>
  if nx E [93] s3 then bnd (tk E [93] s3) fun _ s4=>ret 31 (-1) fr [x,lo,vA 0 s3.n,vA 0 s3.n] s4
  else bnd (S (.expr false) s3) fun hi s4=>bnd (if nx E [58] s4 then bnd (tk E [58] s4) fun _ s5=>S (.expr false) s5 else some (vA 0 s4.n,s4)) fun most s5=>bnd (tk E [93] s5) fun _ s6=>ret 31 (-1) fr [x,lo,hi,most] s6
 else cX1 E K (-1) fr x (S (.expr false)) [lo] s2
def WX1 (s:St):O Tr:=bnd (S .value s) fun x s1=>if nx E [58] s1 then bnd (tk E [58] s1) fun _ s2=>bnd (S .value s2) fun y s3=>ret 38 (-1) s.n [x,y] s3 else some (x,s1)
def wX1 (s:St):O Tr :=
 bnd (tk E [123] s) fun _ s1=>bnd (iX0 K (cX3 E [44] [125] (fun _=>false) (WX1 E S)) [] s1) fun l s2=>bnd (tk E [125] s2) fun _ s3=>some (xC 12 l s1.n,s3)
def vX3 (s:St):O Tr:=if nx E [123] s then bnd (S .elements s) fun e s1=>ret 39 (-1) s.n [vA 0 s.n,e] s1 else S (.expr false) s
def OX0 (s:St):Bool:=!s.ok||ends E s||am E s.n [[125],[99,97,115,101],[100,101,102,97,117,108,116]]
def JX3 (s:St):O Tr :=
 bnd (iX0 K (fun l s =>
  if OX0 E s then some ((false,l),s)
  else if nx E [59] s then bnd (ret 49 (-1) s.n [] s) fun z s=>bnd (tk E [59] s) fun _ s1=>some ((true,l++[z]),s1)
  else bnd (S .stmt s) fun x s1=>if nx E [125] s1||ends E s1 then some ((true,l++[x]),s1) else bnd (tk E [59] s1) fun _ s2=>some ((true,l++[x]),s2)) [] s) fun l s1=>some (xC 13 l s.n,s1)
def UX2 (s:St):O Tr:=bnd (tk E [123] s) fun _ s1=>bnd (S .stmts s1) fun t s2=>bnd (tk E [125] s2) fun _ s3=>ret 58 (-1) s.n [t] s3
def hushed (s:St):Bool:=nx E [59] s||nx E [125] s||ends E s
def NX4 (s:St):O Tr :=
 if E.is s.n [99,111,110,115,116]||E.is s.n [118,97,114]||E.is s.n [116,121,112,101] then bnd (S .group s) fun d s1=>ret 68 (-1) s.n [d] s1
 else if E.is s.n [103,111] then bnd (tk E [103,111] s) fun _ s1=>bnd (S (.expr false) s1) fun x s2=>ret 54 (-1) s.n [x] s2
 else if E.is s.n [100,101,102,101,114] then bnd (tk E [100,101,102,101,114] s) fun _ s1=>bnd (S (.expr false) s1) fun x s2=>ret 55 (-1) s.n [x] s2
 else if E.is s.n [114,101,116,117,114,110] then bnd (tk E [114,101,116,117,114,110] s) fun _ s1=>bnd (if hushed E s1 then some (vA 11 s1.n,s1) else S (.exprs false) s1) fun l s2=>ret 56 (-1) s.n [l] s2
 else if E.is s.n [98,114,101,97,107]||E.is s.n [99,111,110,116,105,110,117,101]||E.is s.n [103,111,116,111]||E.is s.n [102,97,108,108,116,104,114,111,117,103,104] then bnd (if E.is s.n [103,111,116,111]||!E.is s.n [102,97,108,108,116,104,114,111,117,103,104]&&E.named s.up.n then DX0 E s.up else some (vA 0 s.up.n,s.up)) fun x s1=>ret 57 s.n s.n [x] s1
 else if E.is s.n [123] then S .block s
 else if E.is s.n [105,102] then S .ifs s
 else if E.is s.n [115,119,105,116,99,104] then S .switches s
 else if E.is s.n [115,101,108,101,99,116] then S .selects s
 else if E.is s.n [102,111,114] then S .fors s
 else if E.named s.n&&E.is (s.n+1) [58] then bnd (DX0 E s) fun x s1=>bnd (tk E [58] s1) fun _ s2=>bnd (if hushed E s2 then some (vA 49 s2.n,s2) else S .stmt s2) fun t s3=>ret 67 (-1) s.n [x,t] s3
 else S (.simple false) s
def HX0:List (List UInt8):=[[61],[58,61],[43,61],[45,61],[42,61],[47,61],[37,61],[38,61],[124,61],[94,61],[60,60,61],[62,62,61],[38,94,61]]
def aX4 (l:Tr) (fr:Nat) (h:Bool) (s:St):O Tr :=
 if s.ok&&am E s.n HX0 then bnd (S (.exprs h) s.up) fun r s1=>ret 53 s.n fr [l,r] s1
 else if !s.ok then some (zT,vX0 s)
 else match l.kids with
  | [x] =>
   if nx E [43,43] s||nx E [45,45] s then ret 52 s.n fr [x] s.up
   else if nx E [60,45] s then bnd (tk E [60,45] s) fun _ s1=>bnd (S (.expr h) s1) fun y s2=>ret 51 (-1) fr [x,y] s2
   else ret 50 (-1) fr [x] s
  | _=>some (zT,vX0 s)
def XX0 (t:Tr) (s:St):O Tr:=if !s.ok||t.kind != 50 then some (zT,vX0 s) else match t.kids with|x::_=>some (x,s)|[]=>none
def lX3 (s:St):O Tr:=if nx E [101,108,115,101] s then bnd (tk E [101,108,115,101] s) fun _ s1=>if nx E [105,102] s1 then S .ifs s1 else S .block s1 else some (vA 0 s.n,s)
def DX7 (s:St):O Tr :=
 bnd (tk E [105,102] s) fun _ s1 =>
 bnd (if nx E [59] s1 then bnd (tk E [59] s1) fun _ s2=>bnd (S (.expr true) s2) fun c s3=>some ((vA 0 s1.n,c),s3)
  else bnd (S (.simple true) s1) fun t s2 =>
   if nx E [59] s2 then bnd (tk E [59] s2) fun _ s3=>bnd (S (.expr true) s3) fun c s4=>some ((t,c),s4)
   else bnd (XX0 t s2) fun c s3=>some ((vA 0 s1.n,c),s3)) fun p s2 =>
 bnd (S .block s2) fun b s3=>bnd (lX3 E S s3) fun o s4=>ret 59 (-1) s.n [p.1,p.2,b,o] s4
def mX1 (t:Tr):Option (Option (Tr × Tr)) :=
 match t.kids with
 | []=>if t.kind==50||t.kind==53 then none else some none
 | a::r =>
  if t.kind==50&&a.kind==33 then match a.kids with|y::_=>some (some (.mk 0 (-1) t.fr t.fr [],y))|[]=>none
  else if t.kind != 53 then some none
  else match a.kids with
   | [x]=>(match r with
    | []=>none
    | b::_=>(match b.kids with
     | [y]=>if x.kind==26&&y.kind==33 then (if E.word t.word==[58,61] then (match y.kids with|z::_=>some (some (x,z))|[]=>none) else some none) else some none
     | _=>some none))
   | _=>some none
def pX2 (fr:Nat) (first last:Tr) (some':Bool) (s:St):O Tr :=
 if some' then match mX1 E last with
  | none=>none
  | some (some (name,x))=>bnd (S (.clauses 2) s) fun c s1=>ret 61 (-1) fr [first,name,x,c] s1
  | some none=>bnd (XX0 last s) fun x s1=>bnd (S (.clauses 1) s1) fun c s2=>ret 60 (-1) fr [first,x,c] s2
 else bnd (S (.clauses 1) s) fun c s1=>ret 60 (-1) fr [first,last,c] s1
def fX1 (fr:Nat) (first:Tr) (s:St):O Tr :=
 bnd (tk E [59] s) fun _ s1=>if nx E [123] s1 then pX2 E S fr first (vA 0 s1.n) false s1 else bnd (S (.simple true) s1) fun t s2=>pX2 E S fr first t true s2
def rX1 (s:St):O Tr :=
 bnd (tk E [115,119,105,116,99,104] s) fun _ s1 =>
 if nx E [123] s1 then pX2 E S s.n (vA 0 s1.n) (vA 0 s1.n) false s1
 else if nx E [59] s1 then fX1 E S s.n (vA 0 s1.n) s1
 else bnd (S (.simple true) s1) fun t s2=>if nx E [59] s2 then fX1 E S s.n t s2 else pX2 E S s.n (vA 0 s1.n) t true s2
def uX1 (sort:Nat) (s:St):O Tr :=
 bnd (tk E [123] s) fun _ s1=>bnd (iX0 K (fun l s =>
  if s.ok&&!nx E [125] s then
   bnd (if nx E [100,101,102,97,117,108,116] s then bnd (tk E [100,101,102,97,117,108,116] s) fun _ s1=>some (vA 0 s1.n,s1) else bnd (tk E [99,97,115,101] s) fun _ s1=>S (.cased sort) s1) fun x s1 =>
   bnd (tk E [58] s1) fun _ s2=>bnd (S .stmts s2) fun t s3=>bnd (ret (if sort=3 then 64 else 62) (-1) s.n [x,t] s3) fun z s4=>some ((true,l++[z]),s4)
  else some ((false,l),s)) [] s1) fun l s2=>bnd (tk E [125] s2) fun _ s3=>some (xC 25 l s2.n,s3)
def VX2 (sort:Nat) (s:St):O Tr:=if sort=1 then S (.exprs false) s else if sort=3 then S (.simple false) s else EX0 E K 11 [44] (S .typ) s
def UX1 (s:St):O Tr:=bnd (tk E [115,101,108,101,99,116] s) fun _ s1=>bnd (S (.clauses 3) s1) fun c s2=>ret 63 (-1) s.n [c] s2
def QX0 (s:St):Bool:=s.ok&&(E.is s.n [61]||E.is s.n [58,61])&&E.is (s.n+1) [114,97,110,103,101]
def AX1 (fr:Nat) (a:Tr) (s:St):O Tr :=
 bnd (tk E [59] s) fun _ s1=>bnd (if nx E [59] s1 then some (vA 0 s1.n,s1) else S (.expr true) s1) fun x s2=>bnd (tk E [59] s2) fun _ s3 =>
 bnd (if nx E [123] s3 then some (vA 0 s3.n,s3) else S (.simple true) s3) fun c s4=>bnd (S .block s4) fun b s5=>ret 65 (-1) fr [a,x,c,b] s5
def XX4 (s:St):O Tr :=
 bnd (tk E [102,111,114] s) fun _ s1 =>
 if nx E [123] s1 then bnd (S .block s1) fun b s2=>ret 65 (-1) s.n [vA 0 s1.n,vA 0 s1.n,vA 0 s1.n,b] s2
 else if nx E [114,97,110,103,101] s1 then bnd (tk E [114,97,110,103,101] s1) fun _ s2=>bnd (S (.expr true) s2) fun x s3=>bnd (S .block s3) fun b s4=>ret 66 (-1) s.n [vA 0 s1.n,x,b] s4
 else if nx E [59] s1 then AX1 E S s.n (vA 0 s1.n) s1
 else bnd (S (.exprs true) s1) fun l s2 =>
  if QX0 E s2 then bnd (S (.expr true) ⟨s2.n+2,s2.b⟩) fun x s3=>bnd (S .block s3) fun b s4=>ret 66 s2.n s.n [l,x,b] s4
  else bnd (S (.rest l s1.n true) s2) fun a s3 =>
   if nx E [59] s3 then AX1 E S s.n a s3
   else bnd (XX0 a s3) fun x s4=>bnd (S .block s4) fun b s5=>ret 65 (-1) s.n [vA 0 s1.n,x,vA 0 s4.n,b] s5
def CX0:RF->St->O Tr
 | .file=>MX4 E K S|.group=>KX3 E K S|.spec w=>ZX1 E S w|.fn=>fnM E S|.signature=>NX0 E S|.params=>gX2 E K S|.param=>MX3 E S
 | .tparams=>SX1 E K S|.names=>EX0 E K 10 [44] (DX0 E)|.union=>EX0 E K 18 [124] (GX2 E S)|.typ=>IX5 E S|.bracketed fr=>dX1 E S fr|.members w=>QX1 E K S w|.named=>PX2 E K S
 | .field=>nX3 E S|.elem=>OX4 E S|.exprs h=>EX0 E K 11 [44] (S (.expr h))|.expr h=>uX0 E K S h 5|.unary h=>QX2 E S h|.operand=>sX1 E S|.primary h=>yX1 E K S h
 | .dotted x fr=>yX2 E S x fr|.call x fr=>hX5 E K S x fr|.indexed x fr=>NX1 E K S x fr|.elements=>wX1 E K S|.value=>vX3 E S|.stmts=>JX3 E K S|.block=>UX2 E S
 | .stmt=>NX4 E S|.simple h=>fun s=>bnd (S (.exprs h) s) fun l s1=>S (.rest l s.n h) s1|.rest l fr h=>aX4 E S l fr h|.ifs=>DX7 E S|.switches=>rX1 E S
 | .clauses sort=>uX1 E K S sort|.cased sort=>VX2 E K S sort|.selects=>UX1 E S|.fors=>XX4 E S
end
def oX0 (E:Env):Nat->RF->St->O Tr
 | 0=>fun _ _=>none
 | k+1=>CX0 E (k+1) (oX0 E k)
end Rf
namespace Rf
def G3 (t:Tr):Prop:=t.kind=33->t.kids≠[]
def Gd (t:Tr):Prop:=G3 t/\t.kind≠50/\(t.kind=53->∃ l r,t.kids=[l,r]/\∀ y∈r.kids,G3 y)
def Gx (t:Tr):Prop:=t.kind=11/\∀ y∈t.kids,G3 y
theorem Gx.gd {t:Tr} (h:Gx t):Gd t:=by
 obtain⟨h1,h2⟩:=h;refine⟨fun e=>?_,?_,fun e=>?_⟩
 ·rw [h1] at e;cases e
 ·rw [h1];decide
 ·rw [h1] at e;cases e
def GF:RF->Tr->Prop|.exprs _=>Gx|_=>Gd
theorem GF.gd {f:RF}{t:Tr} (h:GF f t):Gd t:=by cases f <;> first|exact Gx.gd h|exact h
def Bd {α:Type} (G:α->Prop) (k:Nat) (m:O α):Prop:=∃ t n,m=some (t,⟨n,some k⟩)/\G t
def Sim {α β:Type} (I:α->β) (G:β->Prop) (r:R α) (m:O β):Prop:=match r with|.ok a n=>m=some (I a,⟨n,none⟩)|.bad k=>Bd G k m|.out=>True
abbrev gX0 (G:Tr->Prop) (r:R Tr) (m:O Tr):Prop:=Sim id G r m
theorem ZQ9 {α β:Type}{a:α}{s:St}{f:α->St->O β}:bnd (some (a,s)) f=f a s:=rfl
theorem hX0 {α β:Type}{c:Prop} [Decidable c] {a b:O α}{f:α->St->O β}:bnd (if c then a else b) f=if c then bnd a f else bnd b f:=by split <;> rfl
theorem aX0 {α β γ:Type}{r:O α}{f:α->St->O β}{g:β->St->O γ}:bnd (bnd r f) g=bnd r fun a n=>bnd (f a n) g:=by cases r <;> rfl
theorem uX5 {α:Type}{r:O α}:bnd r (fun a s=>some (a,s))=r:=by cases r <;> rfl
section
variable {E:Env}{n k:Nat}{w:List UInt8}
theorem wX0:nx E w ⟨n,none⟩=E.is n w:=by simp [nx,St.ok]
theorem VX0:nx E w ⟨n,some k⟩=false:=by simp [nx,St.ok]
theorem mX0:tk E w ⟨n,none⟩=if E.is n w then some ((),⟨n+1,none⟩) else some ((),⟨n,some n⟩):=by unfold tk;rw [wX0];split <;> rfl
theorem vX1:tk E w ⟨n,some k⟩=some ((),⟨n,some k⟩):=rfl
theorem kX1:(St.mk n none).ok=true:=by simp [St.ok]
theorem UX0:(St.mk n (some k)).ok=false:=by simp [St.ok]
theorem up_ {b:Option Nat}:(St.mk n b).up=⟨n+1,b⟩:=rfl
theorem iX4:vX0 ⟨n,none⟩=⟨n,some n⟩:=rfl
theorem mX4:vX0 ⟨n,some k⟩=⟨n,some k⟩:=rfl
theorem eX4:KX1 E w ⟨n,none⟩=if E.is n w then some ((),⟨n+1,none⟩) else some ((),⟨n,none⟩):=by
 unfold KX1;rw [wX0,mX0];cases h:E.is n w <;> simp
theorem MX9:KX1 E w ⟨n,some k⟩=some ((),⟨n,some k⟩):=rfl
theorem XX5 {c:UInt8} (h:E.kind (n:Int)=c) (hc:c≠0):n < E.l.length:=by
 rcases Nat.lt_or_ge n E.l.length with h'|h'
 ·exact h'
 ·rw [FG h'] at h;exact absurd h.symm hc
theorem cX5 (h:E.named (n:Int)=true):n < E.l.length:=XX5 (c:=1) (by simpa [Env.named] using h) Ct
theorem eX6 (h:E.quoted (n:Int)=true):n < E.l.length:=XX5 (c:=7) (by simpa [Env.quoted] using h) Ct
theorem aX9 (h:E.literal (n:Int)=true):n < E.l.length:=by
 rcases Nat.lt_or_ge n E.l.length with h'|h'
 ·exact h'
 ·simp [Env.literal,FG h'] at h
theorem VX1:DX0 E ⟨n,none⟩=if E.named n then some (.mk 26 n n (n+1) [],⟨n+1,none⟩) else some (zT,⟨n,some n⟩):=by
 unfold DX0 lfM;cases h:E.named (n:Int) with
 | true=>simp [kX1,cX5 h,up_]
 | false=>simp [kX1,iX4]
theorem kX4:DX0 E ⟨n,some k⟩=some (zT,⟨n,some k⟩):=rfl
theorem UX8:yX4 E ⟨n,none⟩=if E.quoted n then some (.mk 27 n n (n+1) [],⟨n+1,none⟩) else some (zT,⟨n,some n⟩):=by
 unfold yX4 lfM;cases h:E.quoted (n:Int) with
 | true=>simp [kX1,eX6 h,up_]
 | false=>simp [kX1,iX4]
theorem pZ0:yX4 E ⟨n,some k⟩=some (zT,⟨n,some k⟩):=rfl
theorem CX3 {c:UInt8}{wd:Int}{fr:Nat}{ks:List Tr}{b:Option Nat}:ret c wd fr ks ⟨n,b⟩=some (.mk c wd fr n ks,⟨n,b⟩):=rfl
theorem EX3 {E:Env}{n:Nat}:LC E n=if E.named n then .ok (.mk 26 n n (n+1) []) (n+1) else .bad n:=rfl
theorem TX8 {E:Env}{n:Nat}:TH E n=if E.quoted n then .ok (.mk 27 n n (n+1) []) (n+1) else .bad n:=rfl
theorem LX0 {α:Type}{K:Nat}{f:α->St->O (Bool × α)}{a:α}{s:St}:iX0 (K+1) f a s=bnd (f a s) fun p s=>if p.1 then iX0 K f p.2 s else some (p.2,s):=rfl
theorem cX0 {α:Type}{K:Nat}{f:α->St->O (Bool × α)}{a:α}{s:St} (h:f a s=some ((false,a),s)) (hK:1<=K):iX0 K f a s=some (a,s):=by
 obtain⟨K,rfl⟩:∃ j,K=j+1:=⟨K - 1,Cs⟩;rw [LX0,h];rfl
theorem OX8 {mark shut:List UInt8}{first:List Tr->Bool}{f:St->O Tr}{l:List Tr}:cX3 E mark shut first f l ⟨n,none⟩=if first l||!E.is n shut then bnd (f ⟨n,none⟩) fun x s=>if nx E shut s then some ((true,l++[x]),s) else bnd (tk E mark s) fun _ s=>some ((true,l++[x]),s) else some ((false,l),⟨n,none⟩):=rfl
theorem cX7 {mark:List UInt8}{f:St->O Tr}{l:List Tr}:NX3 E mark f l ⟨n,none⟩=if E.is n mark then bnd (f ⟨n+1,none⟩) fun x s=>some ((true,l++[x]),s) else some ((false,l),⟨n,none⟩):=by
 unfold NX3;rw [wX0,mX0];cases E.is n mark <;> rfl
theorem wX5 {f:St->O Tr}{l:List Tr}:WX3 E f l ⟨n,none⟩=if E.is n [44]&&!E.is (n+1) [93] then bnd (f ⟨n+1,none⟩) fun x s=>some ((true,l++[x]),s) else some ((false,l),⟨n,none⟩):=by
 unfold WX3;rw [wX0,mX0];cases E.is n [44] <;> rfl
theorem XX2 {mark shut:List UInt8}{first:List Tr->Bool}{f:St->O Tr}{l:List Tr}:cX3 E mark shut first f l ⟨n,some k⟩=some ((false,l),⟨n,some k⟩):=rfl
theorem uX2 {mark:List UInt8}{f:St->O Tr}{l:List Tr}:NX3 E mark f l ⟨n,some k⟩=some ((false,l),⟨n,some k⟩):=rfl
theorem qX9 {f:St->O Tr}{l:List Tr}:WX3 E f l ⟨n,some k⟩=some ((false,l),⟨n,some k⟩):=rfl
end
theorem Bd.bind {α β:Type}{G:α->Prop}{G':β->Prop}{k:Nat}{m:O α}{f:α->St->O β} (h:Bd G k m) (hf:∀ t n,G t->Bd G' k (f t ⟨n,some k⟩)):Bd G' k (bnd m f):=by
 obtain⟨t,n,rfl,hg⟩:=h;exact hf t n hg
theorem Bd.some {α:Type}{G:α->Prop}{k n:Nat}{t:α} (h:G t):Bd G k (some (t,⟨n,some k⟩)):=⟨t,n,rfl,h⟩
theorem Bd.mono {α:Type}{G G':α->Prop}{k:Nat}{m:O α} (h:Bd G k m) (hg:∀ t,G t->G' t):Bd G' k m:=by obtain⟨t,n,e,h⟩:=h;exact⟨t,n,e,hg t h⟩
theorem Sim.bind {α β γ δ:Type}{I:α->β}{J:γ->δ}{G:β->Prop}{G':δ->Prop}{r:R α}{m:O β}{f:α->Nat->R γ}{g:β->St->O δ} (h:Sim I G r m) (h1:∀ a n,r=.ok a n->Sim J G' (f a n) (g (I a) ⟨n,none⟩))
  (h2:∀ t n k,G t->Bd G' k (g t ⟨n,some k⟩)):Sim J G' (r.andThen f) (bnd m g):=by
 cases r with
 | ok a n=>rw [show m=some (I a,⟨n,none⟩) from h];exact h1 a n rfl
 | bad k=>exact Bd.bind h (fun t n hg=>h2 t n k hg)
 | out=>trivial
theorem Sim.mono {α β:Type}{I:α->β}{G G':β->Prop}{r:R α}{m:O β} (h:Sim I G r m) (hg:∀ t,G t->G' t):Sim I G' r m:=by
 cases r with
 | ok a n=>exact h
 | bad k=>exact Bd.mono h hg
 | out=>trivial
theorem Sim.ite {α β:Type}{I:α->β}{G:β->Prop}{c:Prop} [Decidable c] {r r':R α}{m m':O β} (h:c->Sim I G r m) (h':¬c->Sim I G r' m'):Sim I G (if c then r else r') (if c then m else m'):=by
 split
 ·exact h ‹_›
 ·exact h' ‹_›
theorem Sim.ok {α β:Type}{I:α->β}{G:β->Prop}{a:α}{n:Nat}:Sim I G (.ok a n) (some (I a,⟨n,none⟩)):=rfl
theorem RX7 {t:Tr} (h:Sh t):G3 t:=by
 intro e hk;have:=h.arity;rw [e,hk] at this;exact absurd this Ct
theorem vX2 {k:UInt8}{l:List Tr}{n:Nat}:(xC k l n).kids=l:=by cases l <;> rfl
theorem GX5 {k:UInt8}{l:List Tr}{n:Nat}:(xC k l n).kind=k:=by cases l <;> rfl
theorem fX4 {k:UInt8}{wd:Int}{fr n:Nat}{ks:List Tr} (h3:k≠33) (h5:k≠50) (h6:k≠53):Gd (.mk k wd fr n ks):=⟨fun e=>absurd e h3,h5,fun e=>absurd e h6⟩
theorem aX1 {k:UInt8}{ks:List Tr}{n:Nat} (h3:k≠33) (h5:k≠50) (h6:k≠53):Gd (xC k ks n):=by cases ks <;> exact fX4 h3 h5 h6
theorem hX4 {ks:List Tr}{n:Nat} (h:∀ y∈ks,G3 y):Gx (xC 11 ks n):=⟨GX5,by rw [vX2];exact h⟩
theorem gX8:Gd zT:=fX4 Ct Ct Ct
def rel (E:Env):F->Bool->Nat->Prop
 | .file,g,_|.fn,g,_|.signature,g,_|.params,g,_|.one .param,g,_|.one .field,g,_|.one .elem,g,_|.one .importSpec,g,_|.one .constSpec,g,_|.one .typeSpec,g,_|.one .valueSpec,g,_|.names,g,_|.union,g,_|.typeName,g,_=>g=false
 | .group,g,n=>g=false/\(E.is n [105,109,112,111,114,116]=true∨E.is n [99,111,110,115,116]=true∨E.is n [118,97,114]=true∨E.is n [116,121,112,101]=true)
 | .typ,_,_|.row _,_,_|.exprs,_,_|.expr,_,_|.unary,_,_|.operand,_,_|.primary,_,_|.simple,_,_|.rest _ _,_,_|.elements,_,_|.stmts,_,_|.block,_,_=>True
 | .members kind o,g,_=>g=false/\(kind=20/\o=.field∨kind=23/\o=.elem)
 | .dot _ _,_,n=>E.is n [46]=true
 | .call _ _,g,_|.value,g,_|.stmt,g,_=>g=false
 | .index _ _,g,n|.tparams,g,n=>g=false/\E.is n [91]=true
 | .ifs,g,n=>g=false/\E.is n [105,102]=true
 | .switches,g,n=>g=false/\E.is n [115,119,105,116,99,104]=true
 | .selects,g,n=>g=false/\E.is n [115,101,108,101,99,116]=true
 | .fors,g,n=>g=false/\E.is n [102,111,114]=true
 | .clauses kind sort,_,_=>(kind=62/\(sort=1∨sort=2))∨(kind=64/\sort=3)
 | .cased sort,g,_=>g=false/\(sort=1∨sort=2∨sort=3)
 | _,_,_=>False
def tr:F->Bool->RF
 | .file,_=>.file|.group,_=>.group|.one .param,_=>.param|.one .field,_=>.field|.one .elem,_=>.elem|.one .importSpec,_=>.spec [105,109,112,111,114,116]|.one .constSpec,_=>.spec [99,111,110,115,116]|.one .typeSpec,_=>.spec [116,121,112,101]|.one .valueSpec,_=>.spec [118,97,114]
 | .fn,_=>.fn|.signature,_=>.signature|.params,_=>.params|.tparams,_=>.tparams|.names,_=>.names|.union,_=>.union|.typ,_=>.typ|.row fr,_=>.bracketed fr|.members kind _,_=>.members (if kind=23 then [105,110,116,101,114,102,97,99,101] else [115,116,114,117,99,116])|.typeName,_=>.named
 | .exprs,g=>.exprs g|.expr,g=>.expr g|.unary,g=>.unary g|.operand,_=>.operand|.primary,g=>.primary g|.dot fr x,_=>.dotted x fr|.call fr x,_=>.call x fr|.index fr x,_=>.indexed x fr|.elements,_=>.elements|.value,_=>.value
 | .stmts,_=>.stmts|.block,_=>.block|.stmt,_=>.stmt|.simple,g=>.simple g|.rest fr l,g=>.rest l fr g|.ifs,_=>.ifs|.switches,_=>.switches|.clauses _ sort,_=>.clauses sort|.cased sort,_=>.cased sort|.selects,_=>.selects|.fors,_=>.fors
 | _,_=>.typ
def Rel (E:Env) (S:AB) (S':RF->St->O Tr):Prop:=∀ f g n,rel E f g n->shF f->gX0 (GF (tr f g)) (S.t f n g) (S' (tr f g) ⟨n,none⟩)
def inB:RF->Bool
 | .typ|.exprs _|.expr _|.unary _|.primary _|.operand|.names|.union|.signature|.params|.block|.stmts|.simple _|.rest _ _ _|.cased _|.clauses _=>true
 | _=>false
def BX3 (S':RF->St->O Tr):Prop:=∀ f m k,inB f=true->Bd (GF f) k (S' f ⟨m,some k⟩)
section
variable {E:Env}{S:AB}{S':RF->St->O Tr}{j:Nat}
theorem Rel.call (h:Rel E (spec E j) S') (f:F) {g:Bool}{n:Nat} (hr:rel E f g n) (hs:shF f) {β δ:Type}{J:β->δ}{G':δ->Prop}{K:Tr->Nat->R β}{K':Tr->St->O δ} (h1:∀ x m,Sh x->Sim J G' (K x m) (K' x ⟨m,none⟩))
  (h2:∀ x m k,Gd x->Bd G' k (K' x ⟨m,some k⟩)):Sim J G' (((spec E j).t f n g).andThen K) (bnd (S' (tr f g) ⟨n,none⟩) K') :=
 Sim.bind (I:=id) (h f g n hr hs) (fun a m e=>h1 a m ((ZF E j).t f n g hs a m e)) (fun t m k hg=>h2 t m k hg.gd)
theorem Rel.callx (h:Rel E (spec E j) S') {g:Bool}{n:Nat}{β δ:Type}{J:β->δ}{G':δ->Prop}{K:Tr->Nat->R β}{K':Tr->St->O δ} (h1:∀ x m,Sh x->Sim J G' (K x m) (K' x ⟨m,none⟩))
  (h2:∀ x m k,Gx x->Bd G' k (K' x ⟨m,some k⟩)):Sim J G' (((spec E j).t .exprs n g).andThen K) (bnd (S' (.exprs g) ⟨n,none⟩) K') :=
 Sim.bind (I:=id) (h .exprs g n trivial trivial) (fun a m e=>h1 a m ((ZF E j).t .exprs n g trivial a m e)) (fun t m k hg=>h2 t m k hg)
theorem Rel.tail (h:Rel E (spec E j) S') (f:F) {g:Bool}{n:Nat} (hr:rel E f g n) (hs:shF f):gX0 Gd ((spec E j).t f n g) (S' (tr f g) ⟨n,none⟩):=Sim.mono (h f g n hr hs) (fun _ hg=>hg.gd)
theorem BX3.call (h:BX3 S') (f:RF) (hf:inB f=true) {m k:Nat}{δ:Type}{G':δ->Prop}{K':Tr->St->O δ} (h2:∀ x m,Gd x->Bd G' k (K' x ⟨m,some k⟩)):Bd G' k (bnd (S' f ⟨m,some k⟩) K'):=Bd.bind (h f m k hf) (fun t n hg=>h2 t n hg.gd)
theorem BX3.tail (h:BX3 S') (f:RF) (hf:inB f=true) {m k:Nat}:Bd Gd k (S' f ⟨m,some k⟩):=Bd.mono (h f m k hf) (fun _ hg=>hg.gd)
end
theorem gX1 {E:Env}{g:Bool}{mark shut:List UInt8}{first:List Tr->Bool}{f:St->O Tr}{o:One}{γ δ:Type}{J:γ->δ}{G':δ->Prop}{F:List Tr × Int->Nat->R γ}{F':List Tr->St->O δ}{k:Nat}{n0:Nat} (hf:∀ l,l≠[]->first l=false) (ho:o≠.call)
  (hone:∀ i,i < k->∀ n,∃ G,gX0 G ((spec E i).t (.one o) n g) (f ⟨n,none⟩)) (h1:∀ l m,(l=[]->m=n0)->Sim J G' (F (l,-1) m) (F' l ⟨m,none⟩)) (h2:∀ l m k,Bd G' k (F' l ⟨m,some k⟩)):∀ i acc n K,i<=k->i<=K->(acc=[]->n=n0)->(acc≠[]∨first []=false∨E.is n shut=false) ->
   Sim J G' (((spec E i).l mark shut o acc (-1) n g).andThen F) (bnd (iX0 (K+1) (cX3 E mark shut first f) acc ⟨n,none⟩) F')
 | 0,_,_,_,_,_,_,_=>trivial
 | i+1,acc,n,K,hk,hK,hn0,hx=>by
  show Sim J G' ((LF E (spec E i) mark shut o acc (-1) n g).andThen F) _
  have e:LF E (spec E i) mark shut o acc (-1) n g=if E.is n shut then .ok (acc,-1) n else ((spec E i).t (.one o) n g).andThen fun x n1=>if E.is n1 shut then (spec E i).l mark shut o (acc++[x]) (-1) n1 g else (want E mark n1).andThen fun _ n2=>(spec E i).l mark shut o (acc++[x]) (-1) n2 g:=by
   unfold LF;cases o <;> simp only [zA,mA] <;> exact absurd rfl ho
  rw [e,LX0,OX8];by_cases hs:E.is n shut=true
  ·have h0:first acc=false:=by
    rcases hx with h|h|h
    ·exact hf _ h
    ·by_cases ha:acc=[]
     ·rw [ha];exact h
     ·exact hf _ ha
    ·rw [h] at hs;cases hs
   simp only [hs,h0,Bool.not_true,Bool.or_self,Be,Ba,Bf,mA,ZQ9];exact h1 acc n hn0
  ·have hs:E.is n shut=false:=by simpa using hs
   simp only [hs,Bu,Bool.or_true,Be,Ba,Bf,zA,aX0];obtain⟨G,hG⟩:=hone i Cs n;refine Sim.bind hG (fun x n1 _=>?_) (fun x n1 k2 _=>?_)
   ·simp only [wX0,id];rw [oA,hX0];obtain⟨K,rfl⟩:∃ j,K=j+1:=⟨K - 1,Cs⟩;refine Sim.ite (fun h=>?_) (fun h=>?_)
    ·simp only [ZQ9,Be];exact gX1 hf ho hone h1 h2 i (acc++[x]) n1 K Cs Cs (fun e=>Jb) (.inl Cu)
    ·simp only [mX0,aX0,hX0,ZQ9,Be];unfold want;rw [oA,oA];refine Sim.ite (fun h=>?_) (fun h=>?_)
     ·exact gX1 hf ho hone h1 h2 i (acc++[x]) (n1+1) K Cs Cs (fun e=>Jb) (.inl Cu)
     ·rw [cX0 (XX2) Cs];exact h2 _ _ _
   ·obtain⟨K,rfl⟩:∃ j,K=j+1:=⟨K - 1,Cs⟩;simp only [VX0,Ba,Bf,vX1,ZQ9,Be,cX0 XX2 (show 1<=K+1 by omega)];exact h2 _ _ _
theorem PX1 {E:Env}{mark:List UInt8}{kind:UInt8}{Y:Nat->List Tr->Nat->R Tr}{f0:Nat->Nat->R Tr}{f:St->O Tr}{G:Tr->Prop}{G':Tr->Prop}{k:Nat} (h0:∀ acc n,Y 0 acc n=.out∨(E.is n mark=false/\Y 0 acc n=.ok (xC kind acc n) n))
  (hX:∀ i acc n,Y (i+1) acc n=if E.is n mark then (f0 i (n+1)).andThen fun x n1=>Y i (acc++[x]) n1 else .ok (xC kind acc n) n)
  (hone:∀ i,i < k->∀ n,gX0 G (f0 i n) (f ⟨n,none⟩)/\∀ a m,f0 i n=.ok a m->G a) (h2:∀ l m,(∀ y∈l,G y)->G' (xC kind l m)):∀ i acc n K,i<=k->i<=K->(∀ y∈acc,G y) ->
   gX0 G' (Y i acc n) (bnd (iX0 (K+1) (NX3 E mark f) acc ⟨n,none⟩) fun l s=>some (xC kind l s.n,s))
 | 0,acc,n,K,_,_,_=>by
  rcases h0 acc n with h|⟨h,h'⟩
  ·rw [h];trivial
  ·rw [h',LX0,cX7];simp only [h,Ba,Bf,ZQ9]
   rfl
 | i+1,acc,n,K,hk,hK,ha=>by
  rw [hX,LX0,cX7];by_cases hs:E.is n mark=true
  ·simp only [hs,Be,ZQ9,aX0];obtain⟨hG,hg⟩:=hone i Cs (n+1);obtain⟨K,rfl⟩:∃ j,K=j+1:=⟨K - 1,Cs⟩;refine Sim.bind hG (fun x n1 e=>?_) (fun x n1 k2 hx=>?_)
   ·simp only [ZQ9,Be,id];exact PX1 h0 hX hone h2 i (acc++[x]) n1 K Cs Cs (fun y hy=>by
     rcases List.mem_append.1 hy with h|h
     ·exact ha y h
     ·simp at h;subst h;exact hg _ _ e)
   ·simp only [ZQ9,Be,cX0 uX2 (show 1<=K+1 by omega)];exact Bd.some (h2 _ _ (fun y hy=>by
     rcases List.mem_append.1 hy with h|h
     ·exact ha y h
     ·simp at h;subst h;exact hx))
  ·have hs:E.is n mark=false:=by simpa using hs
   simp only [hs,Ba,Bf,ZQ9]
   rfl
theorem FX2 {k:UInt8}{l:List Tr}{n m:Nat} (h:l≠[]):xC k l n=xC k l m:=by
 cases l with
 | nil=>exact absurd rfl h
 | cons a b=>rfl
end Rf
namespace Rf
section
variable {E:Env}{m q:Nat}
theorem rs {k:Nat}{f:RF}{s:St}:oX0 E (k+1) f s=CX0 E (k+1) (oX0 E k) f s:=rfl
theorem zX7 (k:Nat) (hk:1<=k):Bd Gd q (oX0 E k .typ ⟨m,some q⟩):=by
 obtain⟨k,rfl⟩:∃ j,k=j+1:=⟨k - 1,Cs⟩;rw [rs];simp only [CX0];simp only [IX5,UX0,Bu,Bool.true_or,Be,mX4];exact Bd.some gX8
theorem VX3 (k:Nat) (hk:1<=k):Bd Gd q (oX0 E k .operand ⟨m,some q⟩):=by
 obtain⟨k,rfl⟩:∃ j,k=j+1:=⟨k - 1,Cs⟩;rw [rs];simp only [CX0];simp only [sX1,UX0,VX0,Bool.false_and,Ba,Bf,kX4];exact Bd.some gX8
theorem UX3 {h:Bool} (k:Nat) (hk:2<=k):Bd Gd q (oX0 E k (.primary h) ⟨m,some q⟩):=by
 obtain⟨k,rfl⟩:∃ j,k=j+1:=⟨k - 1,Cs⟩;rw [rs];simp only [CX0];unfold yX1;refine Bd.bind (VX3 k Cs) (fun t n hg=>?_);rw [cX0 Gk Cs];exact Bd.some hg
theorem UX5 {h:Bool} (k:Nat) (hk:3<=k):Bd Gd q (oX0 E k (.unary h) ⟨m,some q⟩):=by
 obtain⟨k,rfl⟩:∃ j,k=j+1:=⟨k - 1,Cs⟩;rw [rs];simp only [CX0];simp only [QX2,UX0,VX0,Bool.false_and,Ba,Bf];exact UX3 k Cs
theorem QX5 {h:Bool} (k:Nat) (hk:3<=k):∀ j m,Bd Gd q (uX0 E (k+1) (oX0 E k) h j ⟨m,some q⟩)
 | 0,_=>UX5 k hk
 | j+1,m=>by
  unfold uX0;refine Bd.bind (QX5 k hk j m) (fun t n hg=>?_);rw [cX0 Gk Cs];exact Bd.some hg
theorem SX7 {h:Bool} (k:Nat) (hk:4<=k):Bd Gd q (oX0 E k (.expr h) ⟨m,some q⟩):=by
 obtain⟨k,rfl⟩:∃ j,k=j+1:=⟨k - 1,Cs⟩;rw [rs];simp only [CX0];exact QX5 k Cs 5 m
theorem gX4 {G G':Tr->Prop}{K:Nat}{kind:UInt8}{mark:List UInt8}{f:St->O Tr} (hf:Bd G q (f ⟨m,some q⟩)) (hK:1<=K) (hg:∀ x m,G x->G' (xC kind [x] m)):Bd G' q (EX0 E K kind mark f ⟨m,some q⟩):=by
 unfold EX0;refine Bd.bind hf (fun t n ht=>?_);rw [cX0 uX2 hK];exact Bd.some (hg _ _ ht)
theorem vX4 {h:Bool} (k:Nat) (hk:5<=k):Bd Gx q (oX0 E k (.exprs h) ⟨m,some q⟩):=by
 obtain⟨k,rfl⟩:∃ j,k=j+1:=⟨k - 1,Cs⟩;rw [rs];simp only [CX0];exact gX4 (SX7 k Cs) Cs (fun x m hx=>hX4 (by simpa using hx.1))
theorem tX8 (k:Nat) (hk:1<=k):Bd Gd q (oX0 E k .names ⟨m,some q⟩):=by
 obtain⟨k,rfl⟩:∃ j,k=j+1:=⟨k - 1,Cs⟩;rw [rs];simp only [CX0];exact gX4 (f:=DX0 E) (G:=fun _=>True) (m:=m) (q:=q) (by rw [kX4];exact Bd.some trivial) Cs (fun x m _=>aX1 Ct Ct Ct)
theorem bX8 (k:Nat) (hk:2<=k):Bd Gd q (oX0 E k .union ⟨m,some q⟩):=by
 obtain⟨k,rfl⟩:∃ j,k=j+1:=⟨k - 1,Cs⟩;rw [rs];simp only [CX0];refine gX4 (f:=GX2 E (oX0 E k)) (G:=Gd) ?_ Cs (fun x m _=>aX1 Ct Ct Ct);simp only [GX2,VX0,Ba,Bf];exact zX7 k Cs
theorem WX4 (k:Nat) (hk:1<=k):Bd Gd q (oX0 E k .params ⟨m,some q⟩):=by
 obtain⟨k,rfl⟩:∃ j,k=j+1:=⟨k - 1,Cs⟩;rw [rs];simp only [CX0];simp only [gX2,vX1,ZQ9,cX0 XX2 (show 1<=k+1 by omega),CX3];exact zc7
theorem fX5 (k:Nat) (hk:2<=k):Bd Gd q (oX0 E k .signature ⟨m,some q⟩):=by
 obtain⟨k,rfl⟩:∃ j,k=j+1:=⟨k - 1,Cs⟩;rw [rs];simp only [CX0];unfold NX0;refine Bd.bind (WX4 k Cs) (fun t n hg=>?_);simp only [VX0,UX0,Bool.false_and,Ba,Bf,ZQ9,CX3];exact zc7
theorem bX6 (k:Nat) (hk:1<=k):Bd Gd q (oX0 E k .stmts ⟨m,some q⟩):=by
 obtain⟨k,rfl⟩:∃ j,k=j+1:=⟨k - 1,Cs⟩;rw [rs];simp only [CX0];unfold JX3;rw [cX0 (by simp [OX0,UX0]) Cs];exact Bd.some (aX1 Ct Ct Ct)
theorem wX8 (k:Nat) (hk:2<=k):Bd Gd q (oX0 E k .block ⟨m,some q⟩):=by
 obtain⟨k,rfl⟩:∃ j,k=j+1:=⟨k - 1,Cs⟩;rw [rs];simp only [CX0];unfold UX2;simp only [vX1,ZQ9];refine Bd.bind (bX6 k Cs) (fun t n hg=>?_);simp only [vX1,ZQ9,CX3];exact zc7
theorem wX7 {l:Tr}{fr:Nat}{h:Bool} (k:Nat) (hk:1<=k):Bd Gd q (oX0 E k (.rest l fr h) ⟨m,some q⟩):=by
 obtain⟨k,rfl⟩:∃ j,k=j+1:=⟨k - 1,Cs⟩;rw [rs];simp only [CX0];simp only [aX4,UX0,Bool.false_and,Ba,Bf,Bu,Be,mX4];exact Bd.some gX8
theorem RX4 {h:Bool} (k:Nat) (hk:6<=k):Bd Gd q (oX0 E k (.simple h) ⟨m,some q⟩):=by
 obtain⟨k,rfl⟩:∃ j,k=j+1:=⟨k - 1,Cs⟩;rw [rs];simp only [CX0];exact Bd.bind (vX4 k Cs) (fun t n hg=>wX7 k Cs)
theorem HX8 {sort:Nat} (k:Nat) (hk:7<=k):Bd Gd q (oX0 E k (.cased sort) ⟨m,some q⟩):=by
 obtain⟨k,rfl⟩:∃ j,k=j+1:=⟨k - 1,Cs⟩;rw [rs];simp only [CX0];unfold VX2;split
 ·exact Bd.mono (vX4 k Cs) (fun _ h=>h.gd)
 ·split
  ·exact RX4 k Cs
  ·exact gX4 (zX7 k Cs) Cs (fun x m _=>aX1 Ct Ct Ct)
theorem BX6 {sort:Nat} (k:Nat) (hk:1<=k):Bd Gd q (oX0 E k (.clauses sort) ⟨m,some q⟩):=by
 obtain⟨k,rfl⟩:∃ j,k=j+1:=⟨k - 1,Cs⟩;rw [rs];simp only [CX0];unfold uX1;simp only [vX1,ZQ9];rw [cX0 Gk Cs];exact Bd.some (aX1 Ct Ct Ct)
theorem PZ0 (k:Nat) (hk:10<=k):BX3 (oX0 E k):=by
 intro f m q hf;cases f <;> simp only [inB,Ba] at hf
 case typ=>exact zX7 k Cs
 case exprs h=>exact vX4 k Cs
 case expr h=>exact SX7 k Cs
 case unary h=>exact UX5 k Cs
 case primary h=>exact UX3 k Cs
 case operand=>exact VX3 k Cs
 case names=>exact tX8 k Cs
 case union=>exact bX8 k Cs
 case signature=>exact fX5 k Cs
 case params=>exact WX4 k Cs
 case block=>exact wX8 k Cs
 case stmts=>exact bX6 k Cs
 case simple h=>exact RX4 k Cs
 case rest l fr h=>exact wX7 k Cs
 case cased sort=>exact HX8 k Cs
 case clauses sort=>exact BX6 k Cs
end
end Rf
