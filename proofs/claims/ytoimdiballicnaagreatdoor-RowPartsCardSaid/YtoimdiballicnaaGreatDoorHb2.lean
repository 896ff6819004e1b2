/- A part of the proof: Fr, Lp, Pm, Ap, Pe, Mp, Pk, Rl, Rm, Vo. -/
import Derived.WalkKit
import Derived.WalkSpells
import Derived.WalkLawsBesides
import Derived.Sort.Grow
import Derived.Lib.Hide
import Derived.Lib.AppendStr
import Derived.Lib.Builder
import Derived.Lib.Bytes
import Derived.Test.YtoimdiballicnaaGreatDoorRows
import Derived.Deep.AppendLies
import Derived.Deep.RegionHeld3
import Derived.OrdersHeld
import Derived.Test.YtoimdiballicnaaGreatDoorHb0
namespace Go.Proofs.YtoimdiballicnaaGreatDoor
open Go.RowKit
set_option linter.all false
set_option maxHeartbeats 16000000
set_option maxRecDepth 100000
structure Fr (L:List Nat)(w w':World):Prop where
 os:w'.os=w.os
 tape:w'.tape=w.tape
 output:w'.output=w.output
 size:w.heap.size≤w'.heap.size
 block:∀ k,k<w.heap.size→k ∉ L→w'.heap[k]?=w.heap[k]?
theorem Fr.refl(L:List Nat)(w:World):Fr L w w:=⟨rfl,rfl,rfl,Nat.le_refl _,fun _ _ _=>rfl⟩
theorem Fr.step{L L':List Nat}{a b c:World}(h:Fr L a b)(k:Fr L' b c)(hL:∀ x ∈ L',x ∈ L∨a.heap.size≤x):Fr L a c :=
 ⟨k.os.trans h.os,k.tape.trans h.tape,k.output.trans h.output,Nat.le_trans h.size k.size,fun i hi hn =>
  (k.block i (Nat.lt_of_lt_of_le hi h.size) (fun hx=>(hL i hx).elim hn (fun h'=>by omega))).trans (h.block i hi hn)⟩
theorem Fr.trans{L:List Nat}{a b c:World}(h:Fr L a b)(k:Fr L b c):Fr L a c:=h.step k fun _ hx => .inl hx
theorem Fr.trans0{L:List Nat}{a b c:World}(h:Fr L a b)(k:Fr [] b c):Fr L a c:=h.step k fun _ hx=>by cases hx
theorem Fr.mono{L L':List Nat}{a b:World}(h:Fr L a b)(hL:∀ x ∈ L,x ∈ L'∨a.heap.size≤x):Fr L' a b :=
 ⟨h.os,h.tape,h.output,h.size,fun i hi hn=>h.block i hi (fun hx=>(hL i hx).elim hn (fun h'=>by omega))⟩
theorem Fr.drew{L:List Nat}{a w:World}(h:Fr L a w):Fr L a w.drew:=⟨h.os,h.tape,h.output,h.size,h.block⟩
theorem Fr.drewN{L:List Nat}{a w:World}(h:Fr L a w)(n:Nat):Fr L a (w.drewN n):=h.trans ⟨rfl,rfl,rfl,Nat.le_refl _,fun _ _ _=>rfl⟩
theorem Fr.alloc{L:List Nat}{a w:World}(h:Fr L a w)(o:Obj):Fr L a (w.alloc o):=
 h.trans ⟨rfl,rfl,rfl,by simp,fun k hk _=>Below.heap_alloc _ _ _ hk⟩
theorem Fr.setCell{L:List Nat}{a w:World}(h:Fr L a w){p:Addr}(hp:p.block ∈ L∨a.heap.size≤p.block)(u:Value):Fr L a (w.setCell p u):=
 h.step (L':=[p.block]) ⟨rfl,rfl,rfl,by simp[World.setCell],fun k _ hk=>Below.heap_setCell _ _ _ _ (fun e=>hk (by simp[e]))⟩ (fun x hx=>by simp at hx;subst hx;exact hp)
theorem Fr.grown{L:List Nat}{a w w':World}{row:Option Nat}(h:Fr L a w)(hg:w.grownBy w' row)(hr:∀ k,row=some k→k ∈ L∨a.heap.size≤k):Fr L a w' :=
 h.step (L':=row.toList) ⟨hg.os,hg.tape,hg.output,hg.size,fun k hk hn=>hg.block k hk (fun e=>hn (by rw[← e];simp))⟩
  (fun x hx=>hr x (by cases row with|none=>simp at hx|some y=>simp at hx;rw[hx]))
theorem Fr.of_below{w w':World}(h:Below w.heap.size w w'):Fr [] w w':=⟨h.os,h.tape,h.output,h.size,fun k hk _=>h.block k hk⟩
theorem Fr.below{L:List Nat}{B:Nat}{w w':World}(h:Fr L w w')(hB:B≤w.heap.size)(hL:∀ x ∈ L,B≤x):Below B w w' :=
 ⟨h.os,h.tape,h.output,h.size,fun k hk=>h.block k (by omega) (fun hx=>by have:=hL k hx;omega)⟩
theorem Fr.below0{w w':World}(h:Fr [] w w'):Below w.heap.size w w':=h.below (Nat.le_refl _) (fun _ hx=>by cases hx)
theorem Fr.cell{L:List Nat}{w w':World}(h:Fr L w w'){p:Addr}(hp:p.block<w.heap.size)(hn:p.block ∉ L):w'.cell? p=w.cell? p:=World.cell?_of_block (w:=w) (h.block p.block hp hn)
theorem Fr.keep{L:List Nat}{w w':World}(h:Fr L w w'){k:Nat}{o:Obj}(hk:w.heap[k]?=some o)(hn:k ∉ L):w'.heap[k]?=some o :=
 (h.block k (Array.getElem?_eq_some_iff.1 hk).1 hn).trans hk
theorem lt_of_heap{w:World}{k:Nat}{o:Obj}(hk:w.heap[k]?=some o):k<w.heap.size:=(Array.getElem?_eq_some_iff.1 hk).1
theorem Fr.grow(L:List Nat)(w:World)(os:Array Obj):Fr L w (Sort.grow w os):=
 ⟨rfl,rfl,rfl,by simp[Sort.grow],fun k hk _=>by simp[Sort.grow,Array.getElem?_append,hk]⟩
theorem heap_new(w:World)(o:Obj):(w.alloc o).heap[w.heap.size]?=some o:=heap_alloc_new w o
theorem heap_old{w:World}{k:Nat}{o:Obj}(h:w.heap[k]?=some o)(o':Obj):(w.alloc o').heap[k]?=some o:=(heap_alloc_old w o' (lt_of_heap h)).trans h
theorem cell_of{w:World}{b:Nat}{cs:Array Value}{T:TypeId}{fr:Nat×Nat}(hb:w.heap[b]?=some (.cells cs T fr))(j:Nat):w.cell? ⟨b,j,none⟩=cs[j]?:=by simp[World.cell?,hb]
theorem frozen_of{w:World}{b:Nat}{cs:Array Value}{T:TypeId}(hb:w.heap[b]?=some (.cells cs T (0,0)))(j:Nat):w.frozen? ⟨b,j,none⟩=false:=by simp[World.frozen?,hb]
def q2:Bool→List UInt8→Option Nat
 | _,[]=>none
 | odd,c::r=>if c=34∧odd=false then some 1 else (q2 (c==92 && !odd) r).map (·+1)
structure Tok where
 k:Int
 at':Nat
 text:List UInt8
 n:Int
inductive PatT where
 | mk (k a:Int) (nm:List UInt8) (n:Int) (s:List UInt8) (ls:List (List UInt8)) (args:List PatT)
inductive ExprT where
 | mk (k a:Int) (nm:List UInt8) (n:Int) (s:List UInt8) (ls:List (List UInt8)) (args:List ExprT) (arms:List (PatT×ExprT))
def PatT.zero:PatT:=.mk 0 0 [] 0 [] [] []
def ExprT.zero:ExprT:=.mk 0 0 [] 0 [] [] [] []
def ExprT.at_:ExprT→Int
 | .mk _ a _ _ _ _ _ _=>a
inductive PNT where
 | pat|patom
 | marked (x:PatT)
 | recL (a:Int) (ls:List (List UInt8)) (args:List PatT)
inductive NT where
 | seq|item|fn
 | arms (k a:Int)
 | armsL (k a:Int) (x:ExprT) (acc:List (PatT×ExprT))
 | or|and|cmp|sum
 | sumL (a:ExprT)
 | prod
 | prodL (a:ExprT)
 | unary|app
 | opL (n a:Int) (m:Nat) (acc:List ExprT)
 | appL (a:ExprT)
 | post
 | postL (a:ExprT)
 | atom
 | braces (a:Int)
 | recL (a:Int) (ls:List (List UInt8)) (args:List ExprT)
inductive Cmd where
 | retE (x:ExprT)
 | retP (x:PatT)
 | look (k:Tok→Bool→Cmd)
 | ahead (k:Tok→Cmd)
 | adv (k:Cmd)
 | fail (k:Cmd)
 | callE (nt:NT) (k:ExprT→Cmd)
 | callP (nt:PNT) (k:PatT→Cmd)
def wordT(t:Tok):Bool:=t.k==6||t.k==7
def isB(t:Tok)(ok:Bool)(l:List (List UInt8)):Bool:=ok&&wordT t&&l.contains t.text
def isC(l:List (List UInt8))(k:Bool→Cmd):Cmd:=.look fun t ok=>k (isB t ok l)
def mayC(s:List UInt8)(k:Bool→Cmd):Cmd:=.look fun t ok=>if isB t ok [s]=true then .adv (k true)else k false
def mustC(s:List UInt8)(k:Cmd):Cmd:=.look fun t ok=>if isB t ok [s]=true then .adv k else .fail k
def nameB(t:Tok)(ok:Bool):Bool:=ok&&t.k==1
def nameC(k:List UInt8→Cmd):Cmd:=.look fun t ok=>if nameB t ok=true then .adv (k t.text)else .fail (k [])
def beginsB(t:Tok)(ok:Bool):Bool:=(ok&&(t.k==1||t.k==2||t.k==4||t.k==5))||isB t ok [[116,114,117,101],[102,97,108,115,101],[40],[123],[33]]
def numberOf(s:List UInt8):Int:=if s=[61] then 7 else if s=[60] then 8 else if s=[43] then 1 else if s=[45] then 2 else if s=[42] then 3 else if s=[47] then 4 else 5
def calledOf(s:List UInt8):Int×Nat :=
 if s=[114,101,102] then (10,1)else if s=[108,101,110] then (16,1)else if s=[115,105,122,101] then (17,1)
 else if s=[103,101,116,99] then (20,1)else if s=[112,117,116,99] then (21,1)else if s=[97,114,114,97,121] then (13,2)
 else if s=[103,101,116] then (14,2)else if s=[98,121,116,101] then (18,2)else if s=[99,97,116] then (19,2)
 else if s=[115,101,116] then (15,3)else (0,0)
def nodeE(k a:Int)(args:List ExprT):ExprT:=.mk k a [] 0 [] [] args []
def opE(n a:Int)(args:List ExprT):ExprT:=.mk 19 a [] n [] [] args []
def body:NT→Cmd
 | .seq => .callE .item fun a => .look fun t _=>mayC [59] fun b=>if b=true then .callE .seq fun c => .retE (nodeE 20 t.at' [a,c])else .retE a
 | .item => .look fun t _ =>
  mayC [108,101,116] fun b=>if b=true then
   (mayC [114,101,99] fun r=>nameC fun nm=>mustC [61] (.callE (if r=true then .fn else .seq) fun x=>mustC [105,110] (.callE .seq fun y => .retE (.mk (if r=true then 10 else 9) t.at' nm 0 [] [] [x,y] []))))else
  isC [[102,117,110]] fun b=>if b=true then .callE .fn .retE else
  mayC [109,97,116,99,104] fun b=>if b=true then .callE (.arms 16 t.at') .retE else
  mayC [116,114,121] fun b=>if b=true then .callE (.arms 17 t.at') .retE else
  mayC [105,102] fun b=>if b=true then (.callE .seq fun x=>mustC [116,104,101,110] (.callE .item fun y=>mustC [101,108,115,101] (.callE .item fun z => .retE (nodeE 11 t.at' [x,y,z]))))else
  mayC [114,97,105,115,101] fun b=>if b=true then (.callE .post fun x => .retE (nodeE 18 t.at' [x]))else
  .callE .or fun a => .look fun t _=>mayC [58,61] fun b=>if b=true then .callE .item fun c => .retE (opE 12 t.at' [a,c])else .retE a
 | .fn => .look fun t _=>mustC [102,117,110] (nameC fun nm=>mustC [45,62] (.callE .seq fun x => .retE (.mk 7 t.at' nm 0 [] [] [x] [])))
 | .arms k a => .callE .seq fun x=>mustC [119,105,116,104] (.look fun _ ok=>if ok=true then .callE (.armsL k a x []) .retE else mustC [101,110,100] (.retE (.mk k a [] 0 [] [] [x] [])))
 | .armsL k a x acc => .callP .pat fun p=>mustC [45,62] (.callE .seq fun y=>mayC [124] fun b=>if b=true then .callE (.armsL k a x (acc++[(p,y)])) .retE else mustC [101,110,100] (.retE (.mk k a [] 0 [] [] [x] (acc++[(p,y)]))))
 | .or => .callE .and fun a => .look fun t _=>mayC [124,124] fun b=>if b=true then .callE .or fun c => .retE (nodeE 22 t.at' [a,c])else .retE a
 | .and => .callE .cmp fun a => .look fun t _=>mayC [38,38] fun b=>if b=true then .callE .and fun c => .retE (nodeE 21 t.at' [a,c])else .retE a
 | .cmp => .callE .sum fun a => .look fun t ok=>if isB t ok [[61],[60]]=true then .adv (.callE .sum fun c => .retE (opE (numberOf t.text) t.at' [a,c]))else .retE a
 | .sum => .callE .prod fun a => .callE (.sumL a) .retE
 | .sumL a => .look fun t ok=>if isB t ok [[43],[45]]=true then .adv (.callE .prod fun c => .callE (.sumL (opE (numberOf t.text) t.at' [a,c])) .retE)else .retE a
 | .prod => .callE .unary fun a => .callE (.prodL a) .retE
 | .prodL a => .look fun t ok=>if isB t ok [[42],[47],[37]]=true then .adv (.callE .unary fun c => .callE (.prodL (opE (numberOf t.text) t.at' [a,c])) .retE)else .retE a
 | .unary => .look fun t _=>mayC [45] fun b=>if b=true then (.callE .unary fun x => .retE (opE 6 t.at' [x]))else
  mayC [110,111,116] fun b=>if b=true then (.callE .unary fun x => .retE (opE 9 t.at' [x]))else .callE .app .retE
 | .app => .look fun t ok =>
  if (ok&&t.k==3)=true then .adv (.callE .post fun x => .retE (.mk 15 t.at' t.text 0 [] [] [x] []))
  else if (ok&&t.k==6&&decide (0<(calledOf t.text).1))=true then .adv (.callE (.opL (calledOf t.text).1 t.at' (calledOf t.text).2 []) .retE)
  else .callE .post fun a => .callE (.appL a) .retE
 | .opL n a m acc=>match m with
  | 0 => .retE (opE n a acc)
  | m+1 => .callE .post fun x => .callE (.opL n a m (acc++[x])) .retE
 | .appL a => .look fun t ok=>if beginsB t ok=true then (.callE .post fun x => .callE (.appL (nodeE 8 a.at_ [a,x])) .retE)else .retE a
 | .post => .look fun t _=>mayC [33] fun b=>if b=true then (.callE .post fun x => .retE (opE 11 t.at' [x]))else .callE .atom fun a => .callE (.postL a) .retE
 | .postL a => .look fun t ok=>if isB t ok [[46]]=true then .adv (nameC fun nm => .callE (.postL (.mk 14 t.at' nm 0 [] [] [a] [])) .retE)else .retE a
 | .atom => .look fun t ok =>
  if (beginsB t ok && !isB t ok [[33]])=true then .adv (
   if t.k=1 then .retE (.mk 1 t.at' t.text 0 [] [] [] [])
   else if t.k=2 then .retE (.mk 6 t.at' t.text 0 [] [] [] [])
   else if t.k=4 then .retE (.mk 2 t.at' [] t.n [] [] [] [])
   else if t.k=5 then .retE (.mk 3 t.at' [] 0 t.text [] [] [])
   else if t.text=[116,114,117,101] then .retE (.mk 4 t.at' [] 1 [] [] [] [])
   else if t.text=[102,97,108,115,101] then .retE (.mk 4 t.at' [] 0 [] [] [] [])
   else if t.text=[123] then .callE (.braces t.at') .retE
   else mayC [41] fun b=>if b=true then .retE (.mk 5 t.at' [] 0 [] [] [] [])else .callE .seq fun x=>mustC [41] (.retE x))
  else .fail (.retE .zero)
 | .braces a=>mayC [125] fun b=>if b=true then .retE (.mk 12 a [] 0 [] [] [] [])else
  .ahead fun n => .look fun t ok=>if (t.k==1&&(n.k==7&&n.text==[61]))=true then (if ok=true then .callE (.recL a [] []) .retE else mustC [125] (.retE (.mk 12 a [] 0 [] [] [] [])))else
   .callE .seq fun x=>mustC [119,105,116,104] (nameC fun nm=>mustC [61] (.callE .seq fun y=>mustC [125] (.retE (.mk 13 a nm 0 [] [] [x,y] []))))
 | .recL a ls args=>nameC fun nm=>mustC [61] (.callE .seq fun x=>mayC [44] fun b=>if b=true then .callE (.recL a (ls++[nm]) (args++[x])) .retE else mustC [125] (.retE (.mk 12 a [] 0 [] (ls++[nm]) (args++[x]) [])))
structure St where
 i:Nat
 ok:Bool
def FpOf(v v':Value)(B:Nat):Prop:=∀ g,v'.ownBlock=some g→v.ownBlock=some g∨B≤g
section
variable {P:Program} (w:World)
theorem run_append_fp(t ty e:TypeId)(i:TypeInfo)(z:Value)(size bytes:Nat)(ht:P.underlying t=some (.slice e))(hi:P.info? e=some i)(hz:i.zero=some z)
  (hsize:i.size=size) (hby:i.bytes=bytes) (hzs:z.cells.size=size) (hsz:0<size)
  (v:Value) (n:Nat) (xs:List Value) (hown:w.ownsRow 0 e size v n xs)
  (a:Addr) (m c:Nat) (news:List Value) (hl:news.length=m * size) (hnews:∀ j u,news[j]?=some u→w.cell? (a.add j)=some u) (h1:∀ u ∈ news,u.oneCell'=true)
  (h63:n+m≤maxLen) (hbytes:(n+m)* bytes≤140737488355328):
  ∃ v' w',(Builtin.append_ #[t,t] ty #[v,.slice (some a) m c]).run P w = .ok v' w'∧w'.ownsRow 0 e size v' (n+m) (xs++news)∧w.grownBy w' v.ownBlock∧FpOf v v' w.heap.size:=by
 obtain⟨v',w',hr,h2,h3,_⟩:=run_append_own (P:=P) w 0 t ty e i z size bytes ht hi hz hsize hby hzs hsz v n xs hown a m c news hl hnews h1 h63 hbytes (Nat.zero_le _)
 refine⟨v',w',hr,h2,h3,?_⟩
 intro g' hg'
 rcases hown.2 with⟨hv,hn⟩| ⟨g,cap,cur,hv,_,hg,hnc,hcm,hcs,htake⟩
 ·have hown2:w.ownsRow w.heap.size e size v n xs:=⟨hown.1,.inl ⟨hv,hn⟩⟩
  obtain⟨v'',w'',hr',h2',_,_⟩:=run_append_own (P:=P) w w.heap.size t ty e i z size bytes ht hi hz hsize hby hzs hsz v n xs hown2 a m c news hl hnews h1 h63 hbytes (Nat.le_refl _)
  rw[hr] at hr'
  cases hr'
  exact .inr (h2'.lt g' hg').1
 ·subst hv
  subst hsize
  subst hby
  have hsmall:n+m≤9223372036854775807:=by simp only[maxLen] at h63;omega
  by_cases hroom:n+m≤cap
  ·have hfit:n * i.size+news.length≤cur.size:=by rw[hl,hcs,← Nat.add_mul];exact Nat.mul_le_mul_right _ hroom
   have hr':=run_append_room (P:=P) w t ty e i ht hi g n cap cur hg a m c news hl hnews h1 hroom hfit
   rw[hr] at hr'
   cases hr'
   exact .inl hg'
  ·have holds:∀ j u,xs[j]?=some u→w.cell? ((⟨g,0,none⟩:Addr).add j)=some u:=hown.cells (g:=g) rfl
   have hr':=run_append_grow (P:=P) w t ty e i z ht hi hz ⟨g,0,none⟩ n cap xs hown.1 holds a m c news hl hnews (by omega) (by omega) (growslice_fits (by omega) hbytes)
   rw[hr] at hr'
   cases hr'
   simp only[Value.ownBlock,Option.some.injEq] at hg'
   exact .inr (by omega)
theorem wpList_append_fp{ops:Array Oper}{rest:List Oper}{o:Oper}{a:Act}{Q:Exit→Act→World→Prop}(hgd:o.guard=none)(s x:Operand)(t:TypeId)
  (ho:o.op = .call { callee:=.builtin .append,args:=#[s,x],argTypes:=#[t,t] })
  (e:TypeId) (i:TypeInfo) (z:Value) (size bytes:Nat) (ht:P.underlying t=some (.slice e)) (hi:P.info? e=some i) (hz:i.zero=some z)
  (hsize:i.size=size) (hby:i.bytes=bytes) (hzs:z.cells.size=size) (hsz:0<size)
  (v:Value) (n:Nat) (xs:List Value) (hs:a.eval s=v) (hown:w.ownsRow 0 e size v n xs)
  (ad:Addr) (m c:Nat) (news:List Value) (hx:a.eval x = .slice (some ad) m c) (hl:news.length=m * size) (hnews:∀ j u,news[j]?=some u→w.cell? (ad.add j)=some u) (h1:∀ u ∈ news,u.oneCell'=true)
  (h63:n+m≤maxLen) (hbytes:(n+m)* bytes≤140737488355328)
  (h:∀ v' w',w'.ownsRow 0 e size v' (n+m) (xs++news)→w.grownBy w' v.ownBlock→FpOf v v' w.heap.size→wpList P ops Q rest (a.put o.dst v') w'):wpList P ops Q (o::rest) a w:=by
 refine wpList_plain hgd fun K hK=>?_
 obtain⟨v',w',hr,h2,h3,h4⟩:=run_append_fp (P:=P) w t o.type e i z size bytes ht hi hz hsize hby hzs hsz v n xs hown ad m c news hl hnews h1 h63 hbytes
 unfold Oper.wp execOp
 simp only[ho,resolve,invoke,builtin,Sem.run_bind,Sem.run_pure,Result.andThen_ok,List.map_toArray,List.map_cons,List.map_nil,hs,hx,hr]
 exact hK _ _ (h v' w' h2 h3 h4)
end
theorem ownsRow_fr{e:TypeId}{size n:Nat}{v:Value}{xs:List Value}{w w':World}{L:List Nat}(h:w.ownsRow 0 e size v n xs)(hf:Fr L w w')(hL:∀ g,v.ownBlock=some g→g ∉ L):w'.ownsRow 0 e size v n xs:=by
 refine⟨h.1,?_⟩
 rcases h.2 with hn|⟨g,cap,cur,hv,hb,hg,rest⟩
 ·exact .inl hn
 ·exact .inr ⟨g,cap,cur,hv,hb,hf.keep hg (hL g (by rw[hv];rfl)),rest⟩
theorem Fr.append{L:List Nat}{a w w':World}{v:Value}(h:Fr L a w)(hg:w.grownBy w' v.ownBlock)(hv:∀ g,v.ownBlock=some g→g ∈ L∨a.heap.size≤g):Fr L a w':=h.grown hg hv
def CellsAt(w:World)(g o:Nat)(cs:List Value):Prop:=∀ (j:Nat)(v:Value),cs[j]?=some v→w.cell? ⟨g,o+j,none⟩=some v
def SlAt(w:World)(ok:Nat→Prop)(v:Value)(n size:Nat)(cs:Nat→List Value):Prop :=
 (∃ A c,v = .slice A 0 c∧n=0)∨∃ g o c,v = .slice (some ⟨g,o,none⟩) n c∧ok g∧g<w.heap.size∧n≤c∧∀ i,i<n→(cs i).length=size∧CellsAt w g (o+i * size) (cs i)
theorem SlAt.form{w:World}{ok:Nat→Prop}{v:Value}{n size:Nat}{cs:Nat→List Value}(h:SlAt w ok v n size cs):∃ A c,v = .slice A n c:=by
 rcases h with⟨A,c,rfl,rfl⟩| ⟨g,o,c,rfl,_⟩
 ·exact⟨A,c,rfl⟩
 ·exact⟨_,_,rfl⟩
theorem SlAt.len{w:World}{ok:Nat→Prop}{A:Option Addr}{m c n size:Nat}{cs:Nat→List Value}(h:SlAt w ok (.slice A m c) n size cs):m=n:=by
 obtain⟨A',c',e⟩:=h.form
 cases e;rfl
theorem SlAt.row{w:World}{ok:Nat→Prop}{A:Option Addr}{n m c size:Nat}{cs:Nat→List Value}(h:SlAt w ok (.slice A m c) n size cs){i:Nat}(hi:i<n):∃ g o,A=some ⟨g,o,none⟩∧m=n∧g<w.heap.size∧ok g∧(cs i).length=size∧∀ (j:Nat)(v:Value),(cs i)[j]?=some v→w.cell? ⟨g,o+i * size+j,none⟩=some v:=by
 rcases h with⟨_,_,_,h⟩| ⟨g,o,c',hv,hg,hgs,_,hcs⟩
 ·omega
 ·cases hv
  obtain⟨h1,h2⟩:=hcs i hi
  exact⟨g,o,rfl,rfl,hgs,hg,h1,h2⟩
theorem SlAt.cap{w:World}{ok:Nat→Prop}{A:Option Addr}{n m c size:Nat}{cs:Nat→List Value}(h:SlAt w ok (.slice A m c) n size cs)(hn:0<n):n≤c:=by
 rcases h with⟨_,_,_,h⟩| ⟨g,o,c',hv,_,_,hnc,_⟩
 ·omega
 ·cases hv;exact hnc
def strC(s:List UInt8):List Value:=[.string ⟨s.toArray⟩]
inductive PatAt (w:World)(ok:Nat→Prop):PatT→List Value→Prop
 | mk {k a nm n s ls args v5 v6} (c5 c6:Nat→List Value) (h5:SlAt w ok v5 ls.length 1 c5) (e5:∀ (i:Nat) (x:List UInt8),ls[i]?=some x→c5 i=strC x)
   (h6:SlAt w ok v6 args.length 7 c6) (e6:∀ (i:Nat) (x:PatT),args[i]?=some x→PatAt w ok x (c6 i)):
   PatAt w ok (.mk k a nm n s ls args) [.int .i64 k,.int .i64 a,.string ⟨nm.toArray⟩,.int .i64 n,.string ⟨s.toArray⟩,v5,v6]
inductive ExprAt (w:World)(ok:Nat→Prop):ExprT→List Value→Prop
 | mk {k a nm n s ls args arms v5 v6 v7} (c5 c6 cp ce:Nat→List Value) (h5:SlAt w ok v5 ls.length 1 c5) (e5:∀ (i:Nat) (x:List UInt8),ls[i]?=some x→c5 i=strC x)
   (h6:SlAt w ok v6 args.length 8 c6) (e6:∀ (i:Nat) (x:ExprT),args[i]?=some x→ExprAt w ok x (c6 i))
   (h7:SlAt w ok v7 arms.length 15 (fun i=>cp i++ce i)) (e7:∀ (i:Nat) (p:PatT) (x:ExprT),arms[i]?=some (p,x)→PatAt w ok p (cp i)) (e8:∀ (i:Nat) (p:PatT) (x:ExprT),arms[i]?=some (p,x)→ExprAt w ok x (ce i)):
   ExprAt w ok (.mk k a nm n s ls args arms) [.int .i64 k,.int .i64 a,.string ⟨nm.toArray⟩,.int .i64 n,.string ⟨s.toArray⟩,v5,v6,v7]
def Sh(w w':World)(ok ok':Nat→Prop):Prop:=∀ b,ok b→b<w.heap.size→ok' b∧w'.heap[b]?=w.heap[b]?∧b<w'.heap.size
theorem SlAt.keep{w w':World}{ok ok':Nat→Prop}{v:Value}{n size:Nat}{cs:Nat→List Value}(h:SlAt w ok v n size cs)(hs:Sh w w' ok ok'):SlAt w' ok' v n size cs:=by
 rcases h with h|⟨g,o,c,rfl,hg,hlt,hnc,hc⟩
 ·exact .inl h
 ·obtain⟨h1,h2,h3⟩:=hs g hg hlt
  refine .inr ⟨g,o,c,rfl,h1,h3,hnc,fun i hi=>⟨(hc i hi).1,fun j u hu=>?_⟩⟩
  rw[World.cell?_of_block (w:=w) (w':=w') (a:=⟨g,o+i * size+j,none⟩) h2]
  exact(hc i hi).2 j u hu
theorem PatAt.keep{w w':World}{ok ok':Nat→Prop}{x:PatT}{cs:List Value}(h:PatAt w ok x cs)(hs:Sh w w' ok ok'):PatAt w' ok' x cs:=by
 induction h with
 | mk c5 c6 h5 e5 h6 e6 ih=>exact .mk c5 c6 (h5.keep hs) e5 (h6.keep hs) ih
theorem ExprAt.keep{w w':World}{ok ok':Nat→Prop}{x:ExprT}{cs:List Value}(h:ExprAt w ok x cs)(hs:Sh w w' ok ok'):ExprAt w' ok' x cs:=by
 induction h with
 | mk c5 c6 cp ce h5 e5 h6 e6 h7 e7 e8 ih6 ih8=>exact .mk c5 c6 cp ce (h5.keep hs) e5 (h6.keep hs) ih6 (h7.keep hs) (fun i p x hi=>(e7 i p x hi).keep hs) ih8
theorem SlAt.nil_(w:World)(ok:Nat→Prop)(size:Nat)(cs:Nat→List Value):SlAt w ok (.slice none 0 0) 0 size cs:=.inl ⟨none,0,rfl,rfl⟩
def flatN(cs:Nat→List Value)(n:Nat):List Value:=(List.range n).flatMap cs
theorem flatN_succ(cs:Nat→List Value)(n:Nat):flatN cs (n+1)=flatN cs n++cs n:=by simp[flatN,List.range_succ]
theorem flatN_congr{cs ds:Nat→List Value}{n:Nat}(h:∀ i,i<n→cs i=ds i):flatN cs n=flatN ds n:=by
 induction n with
 | zero=>rfl
 | succ n ih=>rw[flatN_succ,flatN_succ,ih (fun i hi=>h i (by omega)),h n (by omega)]
section
variable {α:Type} (E:World→(Nat→Prop)→α→List Value→Prop)
def KeepsE:Prop:=∀ (w w':World)(ok ok':Nat→Prop)(x:α)(cs:List Value),E w ok x cs→Sh w w' ok ok'→E w' ok' x cs
structure RowG (T size:Nat)(w:World)(ok:Nat→Prop)(v:Value)(xs:List α)(cs:Nat→List Value):Prop where
 own:w.ownsRow 0 T size v xs.length (flatN cs xs.length)
 len:∀ i,i<xs.length→(cs i).length=size
 blk:∀ g,v.ownBlock=some g→ok g
 all:∀ (i:Nat) (x:α),xs[i]?=some x→E w (fun b=>ok b∧v.ownBlock≠some b) x (cs i)
end
section
variable {α:Type} {E:World→(Nat→Prop)→α→List Value→Prop} {T size:Nat} {w w':World} {ok ok':Nat→Prop} {v:Value} {xs:List α} {cs:Nat→List Value}
theorem RowG.nil_:RowG E T size w ok (.slice none 0 0) ([]:List α) cs:=⟨⟨by simp[flatN],.inl ⟨rfl,rfl⟩⟩,fun i hi=>by simp at hi,fun g hg=>by simp[Value.ownBlock] at hg,fun i x h=>by simp at h⟩
theorem RowG.lit(hK:KeepsE E){x:α}{c:List Value}(hx:E w ok x c)(hl:c.length=size)(hok:ok w.heap.size):
  RowG E T size (w.alloc (.cells c.toArray T)) ok (.slice (some ⟨w.heap.size,0,none⟩) 1 1) [x] (fun _=>c):=by
 refine⟨?_,fun i hi=>hl,fun g hg=>?_,fun i y hy=>?_⟩
 ·have:=World.ownsRow_lit (base:=0) (e:=T) (size:=size) w c.toArray 1 (Nat.zero_le _) (by decide) (by simp[hl])
  simpa [flatN] using this
 ·simp[Value.ownBlock] at hg;subst hg;exact hok
 ·have hi:i=0:=by
   rcases i with _|i
   ·rfl
   ·simp at hy
  subst hi
  simp at hy
  subst hy
  refine hK _ _ _ _ _ _ hx (fun b hb hlt=>⟨⟨hb,by simp[Value.ownBlock];omega⟩,Below.heap_alloc _ _ _ hlt,by simp;omega⟩)
theorem RowG.keep(hK:KeepsE E)(h:RowG E T size w ok v xs cs)(hs:Sh w w' ok ok'):RowG E T size w' ok' v xs cs:=by
 obtain⟨hown,hl,hb,ha⟩:=h
 refine⟨⟨hown.1,?_⟩,hl,fun g hg=>?_,fun i x hx=>hK _ _ _ _ _ _ (ha i x hx) (fun b hb' hlt=>⟨⟨(hs b hb'.1 hlt).1,hb'.2⟩,(hs b hb'.1 hlt).2⟩)⟩
 ·rcases hown.2 with h|⟨g,cap,cur,rfl,h1,h2,h3⟩
  ·exact .inl h
  ·have hlt:g<w.heap.size:=(Array.getElem?_eq_some_iff.1 h2).1
   exact .inr ⟨g,cap,cur,rfl,h1,(hs g (hb g rfl) hlt).2.1.trans h2,h3⟩
 ·rcases hown.2 with⟨rfl,_⟩| ⟨g',cap,cur,rfl,h1,h2,h3⟩
  ·simp[Value.ownBlock] at hg
  ·simp[Value.ownBlock] at hg;subst hg
   exact(hs g' (hb g' rfl) (Array.getElem?_eq_some_iff.1 h2).1).1
theorem RowG.app(hK:KeepsE E)(h:RowG E T size w ok v xs cs){x:α}{c:List Value}{okx:Nat→Prop}(hx:E w okx x c)(hl:c.length=size)(hav:∀ b,okx b→b<w.heap.size→ok b∧v.ownBlock≠some b)
  {v':Value} (hown:w'.ownsRow 0 T size v' (xs.length+1) (flatN cs xs.length++c)) (hg:w.grownBy w' v.ownBlock) (hfp:FpOf v v' w.heap.size) (hnew:∀ b,w.heap.size≤b→ok b):
  RowG E T size w' ok v' (xs++[x]) (fun i=>if i=xs.length then c else cs i):=by
 have hne:∀ b,b<w.heap.size→v.ownBlock≠some b→v'.ownBlock≠some b:=fun b hlt hn he=>by
  rcases hfp b he with h1|h1
  ·exact hn h1
  ·omega
 have hs:∀ b,b<w.heap.size→v.ownBlock≠some b→w'.heap[b]?=w.heap[b]?∧b<w'.heap.size:=fun b hlt hn=>⟨hg.block b hlt (fun e=>hn e.symm),Nat.lt_of_lt_of_le hlt hg.size⟩
 refine⟨?_,fun i hi=>?_,fun g hg'=>?_,fun i y hy=>?_⟩
 ·have e:flatN (fun i=>if i=xs.length then c else cs i) (xs++[x]).length=flatN cs xs.length++c:=by
   rw[List.length_append,List.length_singleton,flatN_succ,if_pos rfl]
   congr 1
   exact flatN_congr (fun i hi=>by rw[if_neg (by omega)])
  rw[e,List.length_append,List.length_singleton]
  exact hown
 ·rw[List.length_append,List.length_singleton] at hi
  show(if i=xs.length then c else cs i).length=size
  split
  ·exact hl
  ·exact h.len i (by omega)
 ·rcases hfp g hg' with h1|h1
  ·exact h.blk g h1
  ·exact hnew g h1
 ·show E w' _ y (if i=xs.length then c else cs i)
  by_cases e:i=xs.length
  ·subst e
   rw[if_pos rfl]
   simp at hy
   subst hy
   exact hK _ _ _ _ _ _ hx (fun b hb hlt=>⟨⟨(hav b hb hlt).1,hne b hlt (hav b hb hlt).2⟩,hs b hlt (hav b hb hlt).2⟩)
  ·rw[if_neg e]
   have hi:i<xs.length:=by
    have:=(List.getElem?_eq_some_iff.1 hy).1
    rw[List.length_append,List.length_singleton] at this
    omega
   rw[List.getElem?_append_left hi] at hy
   exact hK _ _ _ _ _ _ (h.all i y hy) (fun b hb hlt=>⟨⟨hb.1,hne b hlt hb.2⟩,hs b hlt hb.2⟩)
end
theorem PatAt.len{w:World}{ok:Nat→Prop}{x:PatT}{cs:List Value}(h:PatAt w ok x cs):cs.length=7:=by cases h;rfl
theorem ExprAt.len{w:World}{ok:Nat→Prop}{x:ExprT}{cs:List Value}(h:ExprAt w ok x cs):cs.length=8:=by cases h;rfl
theorem run_checkKey_int{P:Program}{kt:TypeId}{k:IntKind}(hk:P.underlying kt=some (.int k))(em:Bool)(n:Nat)(v:Value)(w:World):(Instr.checkKey em (n+1) kt v).run P w = .ok () w:=by
 rw[Instr.checkKey]
 simp[run_underlying hk]
section
variable {P:Program} {T kt et:TypeId} (hT:P.underlying T=some (.map kt et)) (hk:P.underlying kt=some (.int .i64))
include hT hk
theorem run_lookup_hit(w:World)(r:Nat)(es:Array MapEntry)(c:Nat)(hb:w.heap[r]?=some (.map es c))(n:Int)(i:Nat)(v:Value)(hf:Instr.findNow (.int .i64) (.int .i64 n) es.toList 0=some (some (i,v))):
  (Instr.lookup T (.map (some r)) (.int .i64 n) true).run P w = .ok (.tuple #[v,.bool true]) w:=by
 simp[Instr.lookup,run_underlying hT,run_underlying hk,MapKept.run_getObj_map hb,run_checkKey_int hk _ 9999,Instr.findKey,hf,Result.andThen]
theorem run_lookup_miss(w:World)(r:Nat)(es:Array MapEntry)(c:Nat)(hb:w.heap[r]?=some (.map es c))(n:Int)(z:Value)(hf:Instr.findNow (.int .i64) (.int .i64 n) es.toList 0=some none)
  (hz:(zeroValue et).run P w = .ok z w):
  (Instr.lookup T (.map (some r)) (.int .i64 n) true).run P w = .ok (.tuple #[z,.bool false]) w:=by
 simp[Instr.lookup,run_underlying hT,run_underlying hk,MapKept.run_getObj_map hb,run_checkKey_int hk _ 9999,Instr.findKey,hf,hz,Result.andThen]
end
theorem step_append_fp{P:Program}{w:World}{ops:Array Oper}{o:Oper}{a:Act}{K:Act→World→Prop}{Q:Exit→Act→World→Prop}{E:Prop}(hgd:o.guard=none)(s x:Operand)(t:TypeId)
  (ho:o.op = .call { callee:=.builtin .append,args:=#[s,x],argTypes:=#[t,t] })
  (e:TypeId) (i:TypeInfo) (z:Value) (size bytes:Nat) (ht:P.underlying t=some (.slice e)) (hi:P.info? e=some i) (hz:i.zero=some z)
  (hsize:i.size=size) (hby:i.bytes=bytes) (hzs:z.cells.size=size) (hsz:0<size)
  (v:Value) (n:Nat) (xs:List Value) (hs:a.eval s=v) (hown:w.ownsRow 0 e size v n xs)
  (ad:Addr) (m c:Nat) (news:List Value) (hx:a.eval x = .slice (some ad) m c) (hl:news.length=m * size) (hnews:∀ j u,news[j]?=some u→w.cell? (ad.add j)=some u) (h1:∀ u ∈ news,u.oneCell'=true)
  (h63:n+m≤maxLen) (hbytes:(n+m)* bytes≤140737488355328)
  (h:∀ v' w',w'.ownsRow 0 e size v' (n+m) (xs++news)→w.grownBy w' v.ownBlock→FpOf v v' w.heap.size→K (a.put o.dst v') w'):
  if Region.wanted o (yielded ops a.tmps)=true then Oper.wp P o a w K Q else E:=by
 have hw:Region.wanted o (yielded ops a.tmps)=true:=by simp[Region.wanted,hgd]
 rw[if_pos hw]
 obtain⟨v',w',hr,h2,h3,h4⟩:=run_append_fp (P:=P) w t o.type e i z size bytes ht hi hz hsize hby hzs hsz v n xs hown ad m c news hl hnews h1 h63 hbytes
 unfold Oper.wp execOp
 simp only[ho,resolve,invoke,builtin,Sem.run_bind,Sem.run_pure,Result.andThen_ok,List.map_toArray,List.map_cons,List.map_nil,hs,hx,hr]
 exact h v' w' h2 h3 h4
theorem own_form{w:World}{b:Nat}{T:TypeId}{size:Nat}{v:Value}{n:Nat}{xs:List Value}(h:w.ownsRow b T size v (n+1) xs):∃ g cap,v = .slice (some ⟨g,0,none⟩) (n+1) cap:=by
 rcases h.2 with⟨_,hn⟩| ⟨g,cap,cur,hv,_⟩
 ·omega
 ·exact⟨g,cap,hv⟩
section
variable {P:Program} {md:Region.Mode} {ops ini:Array Oper} {n:Nat} {o:Oper} {Q:Exit→Act→World→Prop}
def lastOk(md:Region.Mode)(ops:Array Oper)(n:Nat):Bool :=
 ((List.range (n+1)).all fun j=>((ops[j]?).map fun o=>o.after.all fun e=>decide (e.on<j)).getD false)&&
 ((List.range n).all fun i=>((ops[i]?).map fun o=>o.guard.isNone).getD false&&(List.range (n+1)).any fun j=>decide (i<j)&&((ops[j]?).map fun o=>o.after.any fun e=>Region.binds md e&&e.on==i).getD false)
def thenLast(P:Program)(ops:Array Oper)(o:Oper)(Q:Exit→Act→World→Prop)(K:Act→World→Prop):Exit→Act→World→Prop
 | .normal,a,w=>if Region.wanted o (yielded ops a.tmps)=true then Oper.wp P o a w K Q else K (a.put o.dst undef) w
 | e,a,w=>Q e a w
structure LastOk (md:Region.Mode)(ops ini:Array Oper)(n:Nat)(o:Oper):Prop where
 get:∀ (i:Nat),i<n→ops[i]?=ini[i]?
 last:ops[n]?=some o
 size:ops.size=n+1
 isize:ini.size=n
 back:∀ (j:Nat) (oj:Oper),ops[j]?=some oj→∀ e ∈ oj.after,e.on<j
 nog:∀ (i:Nat) (oi:Oper),i<n→ops[i]?=some oi→oi.guard=none
 succ:∀ (i:Nat),i<n→∃ (j:Nat) (oj:Oper),i<j∧j≤n∧ops[j]?=some oj∧∃ e ∈ oj.after,Region.binds md e=true∧e.on=i
theorem lastOk_of(h:lastOk md ops n=true)(hg:∀ i,i<n→ops[i]?=ini[i]?)(hl:ops[n]?=some o)(hs:ops.size=n+1)(hi:ini.size=n):LastOk md ops ini n o:=by
 unfold lastOk at h
 rw[Bool.and_eq_true,List.all_eq_true,List.all_eq_true] at h
 obtain⟨h1,h2⟩:=h
 refine⟨hg,hl,hs,hi,fun j oj hj e he=>?_,fun i oi hlt ho=>?_,fun i hlt=>?_⟩
 ·have hlt:=(Array.getElem?_eq_some_iff.1 hj).1
  have:=h1 j (List.mem_range.2 (by omega))
  rw[hj] at this
  simp only[Option.map_some,Option.getD_some] at this
  rw[Array.all_eq_true_iff_forall_mem] at this
  simpa using this e he
 ·have:=h2 i (List.mem_range.2 hlt)
  rw[ho,Bool.and_eq_true] at this
  simpa using this.1
 ·have:=h2 i (List.mem_range.2 hlt)
  rw[Bool.and_eq_true,List.any_eq_true] at this
  obtain⟨j,hj,h3⟩:=this.2
  rw[Bool.and_eq_true] at h3
  have hj:=List.mem_range.1 hj
  cases ho:ops[j]? with
  | none=>rw[ho] at h3;simp at h3
  | some oj =>
   rw[ho] at h3
   simp only[Option.map_some,Option.getD_some] at h3
   rw[Array.any_eq_true] at h3
   obtain⟨hd,k,hk,h4⟩:=h3
   rw[Bool.and_eq_true] at h4
   exact⟨j,oj,by simpa using hd,by omega,ho,oj.after[k],Array.getElem_mem hk,h4.1,by simpa using h4.2⟩
structure Lst (md:Region.Mode)(ops:Array Oper)(n:Nat)(l l':Array Bool):Prop where
 same:∀ j,j<n→∀ d,l.getD j d=l'.getD j d
 un:l.getD n true=false
 sz:l.size=n+1
 sz':l'.size=n
 closed:∀ (j:Nat) (oj:Oper),ops[j]?=some oj→l.getD j false=true→∀ e ∈ oj.after,Region.binds md e=true→l.getD e.on false=true
theorem getD_lt{l:Array Bool}{j:Nat}(h:j<l.size)(d d':Bool):l.getD j d=l.getD j d':=by simp[Array.getD,h]
theorem Lst.put{l l':Array Bool}(h:Lst md ops n l l'){i:Nat}(hi:i<n)(hr:∃ o,ops[i]?=some o∧∀ e ∈ o.after,Region.binds md e=true→l.getD e.on false=true):Lst md ops n (l.setIfInBounds i true) (l'.setIfInBounds i true):=by
 refine⟨fun j hj d=>?_,?_,by simp[h.sz],by simp[h.sz'],fun j oj hj hl e he hb=>?_⟩
 ·by_cases hji:j=i
  ·subst hji
   simp[Array.getD,h.sz,h.sz',hj,Nat.lt_succ_of_lt hj]
  ·rw[getD_set_ne d (fun e=>hji e.symm),getD_set_ne d (fun e=>hji e.symm)]
   exact h.same j hj d
 ·rw[getD_set_ne true (by omega)]
  exact h.un
 ·obtain⟨o,ho,hall⟩:=hr
  by_cases hji:j=i
  ·subst hji
   rw[hj] at ho
   cases ho
   exact getD_set_true (hall e he hb)
  ·rw[getD_set_ne false (fun e=>hji e.symm)] at hl
   exact getD_set_true (h.closed j oj hj hl e he hb)
theorem mem_ready_ini(hk:LastOk md ops ini n o){l l':Array Bool}(h:Lst md ops n l l'){j:Nat}(hj:j<n):j ∈ Region.ready md ops l↔j ∈ Region.ready md ini l':=by
 rw[mem_ready,mem_ready,hk.get j hj,h.same j hj]
 refine and_congr_right fun _=>⟨fun⟨oj,ho,hall⟩=>⟨oj,ho,fun e he hb=>?_⟩,fun⟨oj,ho,hall⟩=>⟨oj,ho,fun e he hb=>?_⟩⟩
 ·have:=hk.back j oj ((hk.get j hj).trans ho) e he
  rw[← h.same _ (by omega)]
  exact hall e he hb
 ·have:=hk.back j oj ((hk.get j hj).trans ho) e he
  rw[h.same _ (by omega)]
  exact hall e he hb
theorem all_listed(hk:LastOk md ops ini n o){l l':Array Bool}(h:Lst md ops n l l')(hn:n ∈ Region.ready md ops l):∀ d i,n≤i+d→i<n→l.getD i false=true:=by
 intro d
 induction d with
 | zero=>intro i h1 h2;omega
 | succ d ih =>
  intro i h1 h2
  obtain⟨j,oj,hij,hjn,ho,e,he,hb,hei⟩:=hk.succ i h2
  by_cases hj:j=n
  ·subst hj
   obtain⟨_,oj',ho',hall⟩:=mem_ready.1 hn
   rw[ho] at ho'
   cases ho'
   rw[← hei]
   exact hall e he hb
  ·have:=h.closed j oj ho (ih j (by omega) (by omega)) e he hb
   rw[hei] at this
   exact this
theorem last_ready(hk:LastOk md ops ini n o){l l':Array Bool}(h:Lst md ops n l l')(hr:Region.ready md ini l'=[]):n ∈ Region.ready md ops l:=by
 have hall:∀ i,i<n→l.getD i false=true:=by
  intro i
  induction i using Nat.strongRecOn with
  | ind i ih =>
   intro hi
   cases hl:l.getD i false with
   | true=>rfl
   | false =>
    exfalso
    have:i ∈ Region.ready md ini l':=by
     rw[← mem_ready_ini hk h hi,mem_ready]
     refine⟨by rw[getD_lt (by rw[h.sz];omega) true false];exact hl,?_⟩
     have hlt:i<ops.size:=by rw[hk.size];omega
     refine⟨ops[i],Array.getElem?_eq_getElem hlt,fun e he hb=>?_⟩
     have:=hk.back i _ (Array.getElem?_eq_getElem hlt) e he
     exact ih e.on this (by omega)
    rw[hr] at this
    cases this
 rw[mem_ready]
 refine⟨h.un,o,hk.last,fun e he hb=>?_⟩
 have:=hk.back n o hk.last e he
 exact hall _ this
theorem wp_last_conv{oi:Oper}{K K' K0:Act→World→Prop}{a:Act}{w:World}(hK:∀ a w,K a w→K' a w)(h:Oper.wp P oi a w K (thenLast P ops o Q K0)):Oper.wp P oi a w K' Q:=by
 unfold Oper.wp at *
 generalize (execOp a.eval oi).run P w=r at *
 cases r with
 | ok nx w' =>
  cases nx <;> simp only[Oper.upon] at h ⊢
  case value=>exact hK _ _ h
  case skip=>exact hK _ _ h
  case defer=>exact hK _ _ h
  case enter f args =>
   refine Calls.mono h fun e w'' he=>?_
   cases e with
   | returned v=>exact hK _ _ he
   | panicked c=>exact he
   | outgrown=>exact he
  case row=>exact Rows.mono h fun v w'' hv=>hK _ _ hv
 | halt x w' =>
  cases x <;> simp only[Oper.upon] at h ⊢
  case panic=>exact h
theorem wpAny_last(hk:LastOk md ops ini n o):∀ (f:Nat)(l l':Array Bool)(a:Act)(w:World),Lst md ops n l l' →
  wpAny P md ini (thenLast P ops o Q (Q .normal)) f l' a w→wpAny P md ops Q (f+1) l a w:=by
 intro f
 have fin:∀ (f:Nat) (l l':Array Bool) (a:Act) (w:World),Lst md ops n l l'→n ∈ Region.ready md ops l→thenLast P ops o Q (Q .normal) .normal a w→wpOp P ops Q n (wpAny P md ops Q f (l.setIfInBounds n true)) a w:=by
  intro f l l' a w hl hn h
  have hnil:Region.ready md ops (l.setIfInBounds n true)=[]:=by
   rw[List.eq_nil_iff_forall_not_mem]
   intro j hj
   obtain⟨h1,oj,h2,_⟩:=mem_ready.1 hj
   have hlt:j<n+1:=by rw[← hk.size];exact(Array.getElem?_eq_some_iff.1 h2).1
   by_cases hjn:j=n
   ·subst hjn
    simp[Array.getD,hl.sz] at h1
   ·rw[getD_set_ne true (fun e=>hjn e.symm),getD_lt (by rw[hl.sz];omega) true false,all_listed hk hl hn n j (by omega) (by omega)] at h1
    cases h1
  have hd:∀ a w,Q .normal a w→wpAny P md ops Q f (l.setIfInBounds n true) a w:=fun a w h=>wpAny_done hnil h f
  unfold wpOp
  rw[hk.last]
  show if _ then _ else _
  have h:if Region.wanted o (yielded ops a.tmps)=true then Oper.wp P o a w (Q .normal) Q else Q .normal (a.put o.dst undef) w:=h
  split
  ·rename_i hw
   rw[if_pos hw] at h
   exact .inl (Oper.wp_mono hd h)
  ·rename_i hw
   rw[if_neg hw] at h
   exact hd _ _ h
 induction f with
 | zero =>
  intro l l' a w hl h
  have hn:=last_ready hk hl h.1
  refine⟨fun h0=>(by rw[h0] at hn;cases hn),fun i hi=>?_⟩
  have:i=n:=by
   have hlt:i<n+1:=by obtain⟨_,oj,h2,_⟩:=mem_ready.1 hi;rw[← hk.size];exact(Array.getElem?_eq_some_iff.1 h2).1
   by_cases hin:i<n
   ·rw[mem_ready_ini hk hl hin,h.1] at hi;cases hi
   ·omega
  subst this
  exact fin 0 l l' a w hl hi h.2
 | succ f ih =>
  intro l l' a w hl h
  refine⟨fun h0=>?_,fun i hi=>?_⟩
  ·have:Region.ready md ini l'=[]:=by
    rw[List.eq_nil_iff_forall_not_mem]
    intro j hj
    have hlt:j<n:=by obtain⟨_,oj,h2,_⟩:=mem_ready.1 hj;rw[← hk.isize];exact(Array.getElem?_eq_some_iff.1 h2).1
    rw[← mem_ready_ini hk hl hlt,h0] at hj
    cases hj
   have:=last_ready hk hl this
   rw[h0] at this
   cases this
  ·by_cases hin:i<n
   ·have h1:=h.2 i ((mem_ready_ini hk hl hin).1 hi)
    obtain⟨_,oi,ho,hall⟩:=mem_ready.1 hi
    have hg:=hk.nog i oi hin ho
    unfold wpOp at h1 ⊢
    rw[← hk.get i hin,ho] at h1
    rw[ho]
    have hw:∀ y,Region.wanted oi y=true:=fun y=>by simp[Region.wanted,hg]
    simp only[hw,if_true] at h1 ⊢
    rcases h1 with h1|h1
    ·exact .inl (wp_last_conv (fun a w h=>ih _ _ _ _ (hl.put hin ⟨oi,ho,hall⟩) h) h1)
    ·exact .inr h1
   ·have:i=n:=by
     have hlt:i<n+1:=by obtain⟨_,oj,h2,_⟩:=mem_ready.1 hi;rw[← hk.size];exact(Array.getElem?_eq_some_iff.1 h2).1
     omega
    subst this
    have hnil:Region.ready md ini l'=[]:=by
     rw[List.eq_nil_iff_forall_not_mem]
     intro j hj
     have hlt:j<i:=by obtain⟨_,oj,h2,_⟩:=mem_ready.1 hj;rw[← hk.isize];exact(Array.getElem?_eq_some_iff.1 h2).1
     rw[← mem_ready_ini hk hl hlt,mem_ready,getD_lt (by rw[hl.sz];omega) true false,all_listed hk hl hi i j (by omega) hlt] at hj
     cases hj.1
    exact fin (f+1) l l' a w hl hi (h.1 hnil)
theorem wp_region_last{id:Nat}{a:Act}{w:World}(S:World→Prop)(hm:P.follows .mixedOrders=true)(hk:LastOk .any ops ini n o)
  (h:wpAnyH P .any ini (thenLast P ops o Q (Q .normal)) S n (Array.replicate n false) a w.drew):(Code.region id ops true).wp P Q a w:=by
 refine wp_region_any hm ?_
 rw[hk.size]
 refine wpAny_last hk n _ _ _ _ ⟨fun j hj d=>?_,?_,by simp,by simp,fun j oj hj hl=>?_⟩ (wpAny_of_held _ _ _ _ h)
 ·simp[Array.getD,hj,Nat.lt_succ_of_lt hj]
 ·simp[Array.getD]
 ·simp[Array.getD] at hl
theorem thenLast_run{K:Act→World→Prop}{a:Act}{w:World}(hg:o.guard=none)(h:Oper.wp P o a w K Q):thenLast P ops o Q K .normal a w:=by
 show if _ then _ else _
 rw[if_pos (by simp[Region.wanted,hg])]
 exact h
theorem drop_get{l rest:List Oper}{i:Nat}{oi:Oper}(h:l.drop i=oi::rest):l.toArray[i]?=some oi:=by
 have:=congrArg (fun l=>l[0]?) h
 simpa using this
section
variable {S:World→Prop} {l rest:List Oper} {i fuel:Nat} {oi:Oper} {listed:Array Bool} {a:Act} {w:World}
theorem held_take{v:Value}(hd:l.drop i=oi::rest)(hs:Region.noSelect l.toArray=true)(hf:Region.free md l.toArray listed i=true)(hr:(Region.ready md l.toArray listed).contains i=true)
  (hQ:∀ c a w,Q (.panic c) (a.put oi.dst v) w→Q (.panic c) a w) (hy:YieldsIf P l.toArray S oi v a) (hS:S w)
  (h:wpAnyH P md l.toArray Q S fuel (listed.setIfInBounds i true) (a.put oi.dst v) w):wpAnyH P md l.toArray Q S (fuel+1) listed a w :=
 wpAnyH_take (drop_get hd) hs hf hr hQ hy hS h
theorem held_step(hd:l.drop i=oi::rest)(hr:Region.ready md l.toArray listed=[i])
  (h:∀ K':Act→World→Prop,Shut (∀ a w,S w→(S w→wpAnyH P md l.toArray Q S fuel (listed.setIfInBounds i true) a w)→K' a w)→if Region.wanted oi (yielded l.toArray a.tmps)=true then Oper.wp P oi a w K' Q else K' (a.put oi.dst undef) w):
  wpAnyH P md l.toArray Q S (fuel+1) listed a w :=
 wpAnyH_ready hr (by simp) (AllReadyH.cons (drop_get hd) h AllReadyH.nil)
end
end
section
variable {P:Program} {Q:Exit→Act→World→Prop} {l:List Oper} {n:Nat} {o o':Oper}
theorem tail_last(hl:lastOk .any l.toArray n=true)(hd:l.drop n=[o]):LastOk .any l.toArray (l.take n).toArray n o:=by
 have hlen:l.length=n+1:=by
  have:=congrArg List.length hd
  simp at this
  omega
 refine lastOk_of hl (fun i hi=>?_) (drop_get hd) (by simpa using hlen) (by simp;omega)
 simp[List.getElem?_take,hi]
theorem lst_start{md:Region.Mode}{ops:Array Oper}:Lst md ops n (Array.replicate (n+1) false) (Array.replicate n false):=
 ⟨fun j hj d=>by simp[Array.getD,hj,Nat.lt_succ_of_lt hj],by simp[Array.getD],by simp,by simp,fun j oj hj hl=>by simp[Array.getD] at hl⟩
theorem wp_region_tail1{id:Nat}{a:Act}{w:World}(n:Nat)(S:World→Prop)(hm:P.follows .mixedOrders=true)(hl:lastOk .any l.toArray n=true)(hd:l.drop n=[o])(hS:S w.drew)
  (h:∀ K:Act→World→Prop,Shut (∀ a w,Q .normal a w→K a w)→S w.drew→wpAnyH P .any (l.take n).toArray (thenLast P l.toArray o Q K) S n (Array.replicate n false) a w.drew):(Code.region id l.toArray true).wp P Q a w :=
 wp_region_last S hm (tail_last hl hd) (h _ (fun _ _ h=>h) hS)
theorem wp_region_tail2{id:Nat}{a:Act}{w:World}(n:Nat)(S:World→Prop)(hm:P.follows .mixedOrders=true)(hl:lastOk .any l.toArray (n+1)=true)(hl2:lastOk .any (l.take (n+1)).toArray n=true)(hd:l.drop n=[o,o'])(hg:o'.guard=none)(hS:S w.drew)
  (h:∀ K K':Act→World→Prop,Shut (∀ a w,Q .normal a w→K a w)→Shut (∀ a w,(∀ Q':Exit→Act→World→Prop,Oper.wp P o' a w K Q')→K' a w)→S w.drew →
   wpAnyH P .any (l.take n).toArray (thenLast P (l.take (n+1)).toArray o (thenLast P l.toArray o' Q K) K') S n (Array.replicate n false) a w.drew):(Code.region id l.toArray true).wp P Q a w:=by
 have d1:l.drop (n+1)=[o']:=by rw[← List.drop_drop,hd];rfl
 have d2:(l.take (n+1)).drop n=[o]:=by rw[List.drop_take,hd];simp
 have t2:(l.take (n+1)).take n=l.take n:=by rw[List.take_take];congr 1;omega
 have hs:l.toArray.size=n+1+1:=(tail_last hl d1).size
 refine wp_region_any hm ?_
 rw[hs]
 refine wpAny_last (tail_last hl d1) _ _ _ _ _ lst_start (wpAny_last (tail_last hl2 d2) _ _ _ _ _ lst_start ?_)
 rw[t2]
 exact wpAny_of_held _ _ _ _ (h _ (thenLast P l.toArray o' Q (Q .normal) .normal) (fun _ _ h=>h) (fun _ _ h=>thenLast_run hg (h Q)) hS)
theorem thenLast_any{P:Program}{ops:Array Oper}{Q:Exit→Act→World→Prop}{o:Oper}{K:Act→World→Prop}{a:Act}{w:World}(hg:o.guard=none)(h:∀ Q':Exit→Act→World→Prop,Oper.wp P o a w K Q'):thenLast P ops o Q K .normal a w:=thenLast_run hg (h Q)
end
theorem tk1{P:Program}{ops:Array Oper}{Q:Exit→Act→World→Prop}{md:Region.Mode}{S:World→Prop}(i:Nat){oi:Oper}{v:Value}{fuel:Nat}{listed:Array Bool}{a:Act}{w:World}(hi:ops[i]?=some oi)(hw:Region.wanted oi (yielded ops a.tmps)=true)(hy:∀ w,S w→(execOp a.eval oi).run P w = .ok (.value v) w)
  (h:wpAnyH P md ops Q S fuel (listed.setIfInBounds i true) (a.put oi.dst v) w) (hs:Region.noSelect ops=true:=by kernel_rfl) (hf:Region.free md ops listed i=true:=by kernel_rfl) (hr:(Region.ready md ops listed).contains i=true:=by kernel_rfl)
  (hQ:∀ c a w,Q (.panic c) (a.put oi.dst v) w→Q (.panic c) a w:=by exact fun _ _ _ h=>h) (hS:S w:=by assumption):wpAnyH P md ops Q S (fuel+1) listed a w :=
 wpAnyH_take hi hs hf hr hQ (.inl ⟨hw,hy⟩) hS h
theorem tk0{P:Program}{ops:Array Oper}{Q:Exit→Act→World→Prop}{md:Region.Mode}{S:World→Prop}(i:Nat){oi:Oper}{fuel:Nat}{listed:Array Bool}{a:Act}{w:World}(hi:ops[i]?=some oi)(hw:Region.wanted oi (yielded ops a.tmps)=false)
  (h:wpAnyH P md ops Q S fuel (listed.setIfInBounds i true) (a.put oi.dst undef) w) (hs:Region.noSelect ops=true:=by kernel_rfl) (hf:Region.free md ops listed i=true:=by kernel_rfl) (hr:(Region.ready md ops listed).contains i=true:=by kernel_rfl)
  (hQ:∀ c a w,Q (.panic c) (a.put oi.dst undef) w→Q (.panic c) a w:=by exact fun _ _ _ h=>h) (hS:S w:=by assumption):wpAnyH P md ops Q S (fuel+1) listed a w :=
 wpAnyH_take hi hs hf hr hQ (.inr ⟨hw,rfl⟩) hS h
theorem tkc{P:Program}{ops:Array Oper}{Q:Exit→Act→World→Prop}{md:Region.Mode}{S:World→Prop}(i:Nat){oi:Oper}{fuel:Nat}{listed:Array Bool}{a:Act}{w:World}(hi:ops[i]?=some oi)
  (h:∀ K':Act→World→Prop,Shut (∀ a w,S w→(S w→wpAnyH P md ops Q S fuel (listed.setIfInBounds i true) a w)→K' a w)→if Region.wanted oi (yielded ops a.tmps)=true then Oper.wp P oi a w K' Q else K' (a.put oi.dst undef) w) (hr:Region.ready md ops listed=[i]:=by kernel_rfl):wpAnyH P md ops Q S (fuel+1) listed a w :=
 wpAnyH_ready hr (by simp) (AllReadyH.cons hi h AllReadyH.nil)
end Go.Proofs.YtoimdiballicnaaGreatDoor
