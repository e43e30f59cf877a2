import Derived.Test.YtbpklgllihhgpaaGreatProg
import Derived.Test.YtbpklgllihhgpaaGreatR05
set_option maxRecDepth 100000
set_option maxHeartbeats 16000000
namespace Go.Proofs.YtbpklgllihhgpaaGreat
open Go.Den
noncomputable section
def xCheck(self:Self)(args:Array Value)(m:Mem): Option (Value×Mem):=match args with
 | ⟨[.agg ⟨[_,_,_,_]⟩]⟩=>(match self 115 args m with
  | some (_,m)=>some (.tuple #[.int .i64 0,.int .i64 0],m)
  | none=>none)
 | _=>none
def usedL(e:MapEntry): Int:=match e.val with
 | .agg ⟨cs⟩=>(match List.drop 256 cs with | [.int _ n]=>n | _=>0)
 | _=>0
def keyL(e:MapEntry): ByteArray:=match e.key with | .string s=>s | _=>⟨#[]⟩
def rowL(e:MapEntry): Array Value:=match e.val with | .agg cs=>cs | _=>#[]
def valOK(time:Int)(v:Value): Bool:=match v with
 | .agg ⟨cs⟩=>Nat.beq cs.length 257 && (match List.drop 256 cs with | [.int .i64 n]=>decide (n≤time) | _=>false) && cs.all (fun v=>!notCell v)
 | _=>false
def entOK(cl:Nat)(time:Int)(e:MapEntry): Bool:=(match e.key with | .string _=>true | _=>false) && valOK time e.val && Nat.blt e.born cl
def apartB:List Nat→Bool
 | []=>true
 | a :: l=>l.all (fun b=>!Nat.beq a b) && apartB l
def apartK:List ByteArray→Bool
 | []=>true
 | a :: l=>l.all (fun b=>!(a.data.toList == b.data.toList)) && apartK l
def isLeast(i:Nat)(u:Int)(l:List (MapEntry×Nat)): Bool:=l.all fun x=>Nat.beq x.2 i || decide (u<usedL x.1)
def leastIdx(all:List (MapEntry×Nat)): List (MapEntry×Nat)→Option Nat
 | []=>none
 | x :: l=>bif isLeast x.2 (usedL x.1) all then some x.2 else leastIdx all l
def fitOK(time ev:Int)(es:List MapEntry)(cl:Nat): Bool:=
 es.all (entOK cl time) && apartB (es.map (·.born)) && apartK (es.map keyL) && decide (0≤time) && decide (time≤1000000000000) && decide (0≤ev) && decide (ev≤1000000000000)
def xEvict(b o r:Nat)(time ev:Int)(es:List MapEntry)(cl:Nat)(c:Tr Value)(n:Nat)(e:TypeId)(g:Bool)(m:Mem): Option (Value×Mem):=
 bif fitOK time ev es cl then (match leastIdx es.zipIdx es.zipIdx with
  | some i=>forceL (es.eraseIdx i) fun l=>m.put r (.obj (.map ⟨l⟩ cl)) fun m=>forceInt (ev+1) fun ev=>Tr.setK (o+5+1) c (o+5) (.int .i64 ev) fun c=>m.put b (.cells c n e g) fun m=>some (.tuple #[],m)
  | none=>none) else none
def xPut(self:Self)(args:Array Value)(m:Mem): Option (Value×Mem):=match args with
 | ⟨[.pointer (some ⟨b,o,none⟩),.string _,.agg ⟨t⟩]⟩=>bif Nat.beq t.length 256 then (match self 55 args m with
  | some (.tuple ⟨[]⟩,m)=>(match m.t.get b with
   | some (.cells c n e g)=>bif Nat.blt (o+5) n then (match c.get o with
    | some (.int .i64 bud)=>(match c.get (o+1)with
     | some (.map (some r))=>(match c.get (o+2)with
      | some (.int .i64 time)=>(match c.get (o+5)with
       | some (.int .i64 ev)=>(match m.t.get r with
        | some (.obj (.map ⟨es⟩ cl))=>bif decide ((es.length:Int)≤bud) then some (.tuple #[],m) else xEvict b o r time ev es cl c n e g m
        | _=>none)
       | _=>none)
      | _=>none)
     | _=>none)
    | _=>none) else none
   | _=>none)
  | _=>none) else none
 | _=>none
def tileL:List Value:=List.replicate 140 (.int .u8 0) ++ ([.int .u8 0,.int .u8 0,.int .u8 0,.int .u8 1] ++ List.replicate 112 (.int .u8 0))
def sameVs:List Value→List Value→Bool
 | [],[]=>true
 | a :: x,b :: y=>sameV a b && sameVs x y
 | _,_=>false
def xClean(self:Self)(args:Array Value)(m:Mem): Option (Value×Mem):=match args with
 | ⟨[.agg ⟨cs⟩]⟩=>bif sameVs cs tileL then some (.agg ⟨tileL⟩,m) else evBody Tryz.prog 4000 self 204 ⟨[.agg ⟨cs⟩]⟩ m
 | _=>none
def X0:Ext:=fun f=>bif Nat.beq f 76 then some xCheck else bif Nat.beq f 26 then some xPut else none
def X1:Ext:=fun f=>bif Nat.beq f 76 then some xCheck else bif Nat.beq f 26 then some xPut else bif Nat.beq f 204 then some xClean else none
def ranTrue(r:Option (Value×Mem)): Bool:=match r with | some (.bool true,_)=>true | _=>false
def ranTile(r:Option (Value×Mem)): Bool:=match r with | some (.agg ⟨cs⟩,_)=>sameVs cs tileL | _=>false
end
end Go.Proofs.YtbpklgllihhgpaaGreat
