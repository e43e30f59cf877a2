import Derived.Test.YtbpklgllihhgpaaGreatProg
import Derived.Test.YtbpklgllihhgpaaGreatA05
set_option maxRecDepth 100000
set_option maxHeartbeats 16000000
namespace Go.Proofs.YtbpklgllihhgpaaGreat
open Go.Den
noncomputable section
def Fe(self:jX)(args:Array Value)(m:dJ): Option (Value×dJ):=match args with
 | ⟨[.agg ⟨[_,_,_,_]⟩]⟩=>(match self 115 args m with
  | some (_,m)=>some (.tuple #[.int .i64 0,.int .i64 0],m)
  | none=>none)
 | _=>none
def lw(e:MapEntry): Int:=match e.val with
 | .agg ⟨cs⟩=>(match List.drop 256 cs with | [.int _ n]=>n | _=>0)
 | _=>0
def BM(e:MapEntry): ByteArray:=match e.key with | .string s=>s | _=>⟨#[]⟩
def Io(e:MapEntry): Array Value:=match e.val with | .agg cs=>cs | _=>#[]
def Ul(time:Int)(v:Value): Bool:=match v with
 | .agg ⟨cs⟩=>Nat.beq cs.length 257 && (match List.drop 256 cs with | [.int .i64 n]=>decide (n≤time) | _=>false) && cs.all (fun v=>!jb v)
 | _=>false
def II(cl:Nat)(time:Int)(e:MapEntry): Bool:=(match e.key with | .string _=>true | _=>false) && Ul time e.val && Nat.blt e.born cl
def EI:List Nat→Bool
 | []=>true
 | a :: l=>l.all (fun b=>!Nat.beq a b) && EI l
def FP:List ByteArray→Bool
 | []=>true
 | a :: l=>l.all (fun b=>!(a.data.toList == b.data.toList)) && FP l
def KH(i:Nat)(u:Int)(l:List (MapEntry×Nat)): Bool:=l.all fun x=>Nat.beq x.2 i || decide (u<lw x.1)
def sF(all:List (MapEntry×Nat)): List (MapEntry×Nat)→Option Nat
 | []=>none
 | x :: l=>bif KH x.2 (lw x.1) all then some x.2 else sF all l
def Ig(time ev:Int)(es:List MapEntry)(cl:Nat): Bool:=
 es.all (II cl time) && EI (es.map (·.born)) && FP (es.map BM) && decide (0≤time) && decide (time≤1000000000000) && decide (0≤ev) && decide (ev≤1000000000000)
def Jl(b o r:Nat)(time ev:Int)(es:List MapEntry)(cl:Nat)(c:Tr Value)(n:Nat)(e:TypeId)(g:Bool)(m:dJ): Option (Value×dJ):=
 bif Ig time ev es cl then (match sF es.zipIdx es.zipIdx with
  | some i=>oU (es.eraseIdx i) fun l=>m.put r (.obj (.map ⟨l⟩ cl)) fun m=>rO (ev+1) fun ev=>Tr.setK (o+5+1) c (o+5) (.int .i64 ev) fun c=>m.put b (.cells c n e g) fun m=>some (.tuple #[],m)
  | none=>none) else none
def Rw(self:jX)(args:Array Value)(m:dJ): Option (Value×dJ):=match args with
 | ⟨[.pointer (some ⟨b,o,none⟩),.string _,.agg ⟨t⟩]⟩=>bif Nat.beq t.length 256 then (match self 55 args m with
  | some (.tuple ⟨[]⟩,m)=>(match m.t.get b with
   | some (.cells c n e g)=>bif Nat.blt (o+5) n then (match c.get o with
    | some (.int .i64 bud)=>(match c.get (o+1)with
     | some (.map (some r))=>(match c.get (o+2)with
      | some (.int .i64 time)=>(match c.get (o+5)with
       | some (.int .i64 ev)=>(match m.t.get r with
        | some (.obj (.map ⟨es⟩ cl))=>bif decide ((es.length:Int)≤bud) then some (.tuple #[],m) else Jl b o r time ev es cl c n e g m
        | _=>none)
       | _=>none)
      | _=>none)
     | _=>none)
    | _=>none) else none
   | _=>none)
  | _=>none) else none
 | _=>none
def DX:List Value:=List.replicate 140 (.int .u8 0) ++ ([.int .u8 0,.int .u8 0,.int .u8 0,.int .u8 1] ++ List.replicate 112 (.int .u8 0))
def xO:List Value→List Value→Bool
 | [],[]=>true
 | a :: x,b :: y=>Dy a b && xO x y
 | _,_=>false
def Jv(self:jX)(args:Array Value)(m:dJ): Option (Value×dJ):=match args with
 | ⟨[.agg ⟨cs⟩]⟩=>bif xO cs DX then some (.agg ⟨DX⟩,m) else Fb Tryz.prog 4000 self 204 ⟨[.agg ⟨cs⟩]⟩ m
 | _=>none
def X0:Su:=fun f=>bif Nat.beq f 76 then some Fe else bif Nat.beq f 26 then some Rw else none
def X1:Su:=fun f=>bif Nat.beq f 76 then some Fe else bif Nat.beq f 26 then some Rw else bif Nat.beq f 204 then some Jv else none
def tV(r:Option (Value×dJ)): Bool:=match r with | some (.bool true,_)=>true | _=>false
def EF(r:Option (Value×dJ)): Bool:=match r with | some (.agg ⟨cs⟩,_)=>xO cs DX | _=>false
end
end Go.Proofs.YtbpklgllihhgpaaGreat
